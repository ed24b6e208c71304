/-
  Rules of the abstract run, plain laws, and what functions answer, for the law RepairEnds.
  Conditions: none.
-/
import Derived.Test.YtmniihkenijjpaaGreatDoorM15
import Derived.Shelf.LaysM
import Derived.Shelf.Strconv.Itoa1
import Derived.Shelf.Strconv.Itoa2
import Derived.Lib.Walk
import Derived.Lib.ItoaMem
import Derived.Lib.ItoaLen
import Derived.Lib.AppendIntMem
import Derived.WalkKit
import Derived.BigCall
import Derived.BigGuard
import Derived.Shelf.SlicesE.Clone
import Derived.Shelf.Strings.Repeat
import Derived.Lib.Builder
import Derived.Shelf.Strings.Builder1
set_option linter.all false
namespace Go.Proofs.YtmniihkenijjpaaGreatDoor
open Go Go.RowKit Go.Sw Go.Shelf
set_option maxRecDepth 100000
set_option maxHeartbeats 8000000
set_option synthInstance.maxSize 4000
set_option synthInstance.maxHeartbeats 400000
instance abv(l1 l2:ByteArray)(a b c d:P2)(r1:Rq)(r2:Rq):DenI Tryz.prog 96 [.agg [.v (.int .i64 1),.v (.string l1),.sl 8 [aS a,aS b],.v (.bool r1.a),aX r1.l,.v (.bool r1.b),aX r1.m],.agg [.v (.int .i64 1),.v (.string l2),.sl 8 [aS c,aS d],.v (.bool r2.a),aX r2.l,.v (.bool r2.b),aX r2.m]] (bJ a∧bJ b∧bJ c∧bJ d) (.bool (gV ⟨1,l1,[a,b],r1⟩ ⟨1,l2,[c,d],r2⟩)):=⟨λhp=>by
 obtain ⟨g1,g2,g3,g4⟩:=hp
 all_goals refine qg (τ:=tab) Yn eY Tryz.func96 rfl (by kernel_rfl) (by kernel_rfl) (by kernel_rfl) ?_
 all_goals (repeat' ((try (conv=>whnf));first
  |refine aI ?_
  |refine ak ?_ ?_
  |(with_reducible refine aO ?_)
  |(with_reducible refine aT ?_)
  |(with_reducible refine au (λ_=>?_) (λ_=>?_))
  |(with_reducible refine dn (λ_=>?_) (λ_=>?_))
  |refine OnB.mk (λ_=>?_) (λ_=>?_)
  |refine Drw.mk (by kernel_rfl) ?_
  |(with_reducible refine dA ?_)
  |(with_reducible refine dN ?_)
  |refine Ends.mk ?_))
 all_goals (try refine Pr.mk ?_)
 all_goals (try simp only [gu] at *)
 all_goals first
  |(exfalso;rename ¬True=>h;exact h trivial)
  |(exfalso;omega)
  |exact ⟨Nat.le_trans g1.1 (by decide),Nat.le_trans g1.2 (by decide),Nat.le_trans g3.1 (by decide),Nat.le_trans g3.2 (by decide)⟩
  |exact ⟨Nat.le_trans g2.1 (by decide),Nat.le_trans g2.2 (by decide),Nat.le_trans g4.1 (by decide),Nat.le_trans g4.2 (by decide)⟩
  |exact ⟨Nat.le_trans g1.1 (by decide),Nat.le_trans g1.2 (by decide),Nat.le_trans g4.1 (by decide),Nat.le_trans g4.2 (by decide)⟩
  |exact ⟨Nat.le_trans g2.1 (by decide),Nat.le_trans g2.2 (by decide),Nat.le_trans g3.1 (by decide),Nat.le_trans g3.2 (by decide)⟩
  |trivial
  |(refine bE ?_;rw [RZ];simp only [Bool.not_eq_true',Bool.not_eq_false'] at *;simp only [pE, *,Bool.and_true,Bool.true_and,Bool.and_false,Bool.false_and,Bool.or_false,Bool.false_or,Bool.or_true,Bool.true_or,decide_true,decide_false,if_true,if_false,Bool.false_eq_true,Bool.not_true,Bool.not_false,beq_self_eq_true];done)⟩
instance abM(l1 l2:ByteArray)(a b c n d:P2)(r1:Rq)(r2:Rq):DenI Tryz.prog 96 [.agg [.v (.int .i64 1),.v (.string l1),.sl 8 [aS a,aS b],.v (.bool r1.a),aX r1.l,.v (.bool r1.b),aX r1.m],.agg [.v (.int .i64 2),.v (.string l2),.sl 8 [aS c,aS n,aS d],.v (.bool r2.a),aX r2.l,.v (.bool r2.b),aX r2.m]] (bJ a∧bJ b∧bJ c∧bJ n∧bJ d) (.bool (gV ⟨1,l1,[a,b],r1⟩ ⟨2,l2,[c,n,d],r2⟩)):=⟨λhp=>by
 obtain ⟨g1,g2,g3,g4,g5⟩:=hp
 all_goals refine qg (τ:=tab) Yn eY Tryz.func96 rfl (by kernel_rfl) (by kernel_rfl) (by kernel_rfl) ?_
 all_goals (repeat' ((try (conv=>whnf));first
  |refine aI ?_
  |refine ak ?_ ?_
  |(with_reducible refine aO ?_)
  |(with_reducible refine aT ?_)
  |(with_reducible refine au (λ_=>?_) (λ_=>?_))
  |(with_reducible refine dn (λ_=>?_) (λ_=>?_))
  |refine OnB.mk (λ_=>?_) (λ_=>?_)
  |refine Drw.mk (by kernel_rfl) ?_
  |(with_reducible refine dA ?_)
  |(with_reducible refine dN ?_)
  |refine Ends.mk ?_))
 all_goals (try refine Pr.mk ?_)
 all_goals (try simp only [gu] at *)
 all_goals first
  |(exfalso;rename ¬True=>h;exact h trivial)
  |(exfalso;omega)
  |(refine bE ?_;rw [qG (by show ¬((1:Int)=2);decide)];done)⟩
instance Zm(l1 l2:ByteArray)(a b c:P2)(r1:Rq)(q2:Rat):DenI Tryz.prog 96 [.agg [.v (.int .i64 1),.v (.string l1),.sl 8 [aS a,aS b],.v (.bool r1.a),aX r1.l,.v (.bool r1.b),aX r1.m],.agg [.v (.int .i64 3),.v (.string l2),.sl 8 [aS c],zs q2.num,zl q2.num,zs q2.den,zl q2.den]] (bJ a∧bJ b∧bJ c∧rz q2≤12) (.bool (gV ⟨1,l1,[a,b],r1⟩ ⟨3,l2,[c],uf q2⟩)):=⟨λhp=>by
 obtain ⟨g1,g2,g3,g4⟩:=hp
 all_goals refine qg (τ:=tab) Yn eY Tryz.func96 rfl (by kernel_rfl) (by kernel_rfl) (by kernel_rfl) ?_
 all_goals (repeat' ((try (conv=>whnf));first
  |refine aI ?_
  |refine ak ?_ ?_
  |(with_reducible refine aO ?_)
  |(with_reducible refine aT ?_)
  |(with_reducible refine au (λ_=>?_) (λ_=>?_))
  |(with_reducible refine dn (λ_=>?_) (λ_=>?_))
  |refine OnB.mk (λ_=>?_) (λ_=>?_)
  |refine Drw.mk (by kernel_rfl) ?_
  |(with_reducible refine dA ?_)
  |refine Ends.mk ?_))
 all_goals (try refine Pr.mk ?_)
 all_goals (try simp only [gu] at *)
 all_goals first
  |(exfalso;omega)
  |(refine bE ?_;rw [qG (by show ¬((1:Int)=3);decide)];done)⟩
instance aa3(l1 l2:ByteArray)(a m b c d:P2)(r1:Rq)(r2:Rq):DenI Tryz.prog 96 [.agg [.v (.int .i64 2),.v (.string l1),.sl 8 [aS a,aS m,aS b],.v (.bool r1.a),aX r1.l,.v (.bool r1.b),aX r1.m],.agg [.v (.int .i64 1),.v (.string l2),.sl 8 [aS c,aS d],.v (.bool r2.a),aX r2.l,.v (.bool r2.b),aX r2.m]] (bJ a∧bJ m∧bJ b∧bJ c∧bJ d) (.bool (gV ⟨2,l1,[a,m,b],r1⟩ ⟨1,l2,[c,d],r2⟩)):=⟨λhp=>by
 obtain ⟨g1,g2,g3,g4,g5⟩:=hp
 all_goals refine qg (τ:=tab) Yn eY Tryz.func96 rfl (by kernel_rfl) (by kernel_rfl) (by kernel_rfl) ?_
 all_goals (repeat' ((try (conv=>whnf));first
  |refine aI ?_
  |refine ak ?_ ?_
  |(with_reducible refine aO ?_)
  |(with_reducible refine aT ?_)
  |(with_reducible refine au (λ_=>?_) (λ_=>?_))
  |(with_reducible refine dn (λ_=>?_) (λ_=>?_))
  |refine OnB.mk (λ_=>?_) (λ_=>?_)
  |refine Drw.mk (by kernel_rfl) ?_
  |(with_reducible refine dA ?_)
  |(with_reducible refine dN ?_)
  |refine Ends.mk ?_))
 all_goals (try refine Pr.mk ?_)
 all_goals (try simp only [gu] at *)
 all_goals first
  |(exfalso;omega)
  |(refine bE ?_;rw [qG (by show ¬((2:Int)=1);decide)];done)⟩
instance aaT(l1 l2:ByteArray)(a m b c n d:P2)(r1:Rq)(r2:Rq):DenI Tryz.prog 96 [.agg [.v (.int .i64 2),.v (.string l1),.sl 8 [aS a,aS m,aS b],.v (.bool r1.a),aX r1.l,.v (.bool r1.b),aX r1.m],.agg [.v (.int .i64 2),.v (.string l2),.sl 8 [aS c,aS n,aS d],.v (.bool r2.a),aX r2.l,.v (.bool r2.b),aX r2.m]] (bJ a∧bJ m∧bJ b∧bJ c∧bJ n∧bJ d) (.bool (gV ⟨2,l1,[a,m,b],r1⟩ ⟨2,l2,[c,n,d],r2⟩)):=⟨λhp=>by
 obtain ⟨g1,g2,g3,g4,g5,g6⟩:=hp
 all_goals refine qg (τ:=tab) Yn eY Tryz.func96 rfl (by kernel_rfl) (by kernel_rfl) (by kernel_rfl) ?_
 all_goals (repeat' ((try (conv=>whnf));first
  |refine aI ?_
  |refine ak ?_ ?_
  |(with_reducible refine aO ?_)
  |(with_reducible refine aT ?_)
  |(with_reducible refine au (λ_=>?_) (λ_=>?_))
  |(with_reducible refine dn (λ_=>?_) (λ_=>?_))
  |refine OnB.mk (λ_=>?_) (λ_=>?_)
  |refine Drw.mk (by kernel_rfl) ?_
  |(with_reducible refine dA ?_)
  |(with_reducible refine dN ?_)
  |refine Ends.mk ?_))
 all_goals (try refine Pr.mk ?_)
 all_goals (try simp only [gu] at *)
 all_goals first
  |(exfalso;rename ¬True=>h;exact h trivial)
  |(exfalso;omega)
  |exact ⟨Nat.le_trans g1.1 (by decide),Nat.le_trans g1.2 (by decide),Nat.le_trans g4.1 (by decide),Nat.le_trans g4.2 (by decide)⟩
  |exact ⟨Nat.le_trans g3.1 (by decide),Nat.le_trans g3.2 (by decide),Nat.le_trans g6.1 (by decide),Nat.le_trans g6.2 (by decide)⟩
  |exact ⟨Nat.le_trans g1.1 (by decide),Nat.le_trans g1.2 (by decide),Nat.le_trans g6.1 (by decide),Nat.le_trans g6.2 (by decide)⟩
  |exact ⟨Nat.le_trans g3.1 (by decide),Nat.le_trans g3.2 (by decide),Nat.le_trans g4.1 (by decide),Nat.le_trans g4.2 (by decide)⟩
  |exact ⟨Nat.le_trans g2.1 (by decide),Nat.le_trans g2.2 (by decide),Nat.le_trans g5.1 (by decide),Nat.le_trans g5.2 (by decide)⟩
  |exact ⟨g1,g2,g3⟩
  |exact ⟨g4,g5,g6⟩
  |exact ⟨g4,g5,g6,g2⟩
  |exact ⟨g1,g2,g3,g5⟩
  |trivial
  |(refine bE ?_;rw [Qv];simp only [Bool.not_eq_true',Bool.not_eq_false'] at *;simp only [pE, *,Bool.and_true,Bool.true_and,Bool.and_false,Bool.false_and,Bool.or_false,Bool.false_or,Bool.or_true,Bool.true_or,decide_true,decide_false,if_true,if_false,Bool.false_eq_true,Bool.not_true,Bool.not_false,beq_self_eq_true];done)⟩
instance abg(l1 l2:ByteArray)(a m b c:P2)(r1:Rq)(q2:Rat):DenI Tryz.prog 96 [.agg [.v (.int .i64 2),.v (.string l1),.sl 8 [aS a,aS m,aS b],.v (.bool r1.a),aX r1.l,.v (.bool r1.b),aX r1.m],.agg [.v (.int .i64 3),.v (.string l2),.sl 8 [aS c],zs q2.num,zl q2.num,zs q2.den,zl q2.den]] (bJ a∧bJ m∧bJ b∧bJ c∧rz q2≤12) (.bool (gV ⟨2,l1,[a,m,b],r1⟩ ⟨3,l2,[c],uf q2⟩)):=⟨λhp=>by
 obtain ⟨g1,g2,g3,g4,g5⟩:=hp
 all_goals refine qg (τ:=tab) Yn eY Tryz.func96 rfl (by kernel_rfl) (by kernel_rfl) (by kernel_rfl) ?_
 all_goals (repeat' ((try (conv=>whnf));first
  |refine aI ?_
  |refine ak ?_ ?_
  |(with_reducible refine aO ?_)
  |(with_reducible refine aT ?_)
  |(with_reducible refine au (λ_=>?_) (λ_=>?_))
  |(with_reducible refine dn (λ_=>?_) (λ_=>?_))
  |refine OnB.mk (λ_=>?_) (λ_=>?_)
  |refine Drw.mk (by kernel_rfl) ?_
  |(with_reducible refine dA ?_)
  |refine Ends.mk ?_))
 all_goals (try refine Pr.mk ?_)
 all_goals (try simp only [gu] at *)
 all_goals first
  |(exfalso;omega)
  |(refine bE ?_;rw [qG (by show ¬((2:Int)=3);decide)];done)⟩
instance ZF(l1 l2:ByteArray)(a c d:P2)(q1:Rat)(r2:Rq):DenI Tryz.prog 96 [.agg [.v (.int .i64 3),.v (.string l1),.sl 8 [aS a],zs q1.num,zl q1.num,zs q1.den,zl q1.den],.agg [.v (.int .i64 1),.v (.string l2),.sl 8 [aS c,aS d],.v (.bool r2.a),aX r2.l,.v (.bool r2.b),aX r2.m]] (bJ a∧bJ c∧bJ d∧rz q1≤12) (.bool (gV ⟨3,l1,[a],uf q1⟩ ⟨1,l2,[c,d],r2⟩)):=⟨λhp=>by
 obtain ⟨g1,g2,g3,g4⟩:=hp
 all_goals refine qg (τ:=tab) Yn eY Tryz.func96 rfl (by kernel_rfl) (by kernel_rfl) (by kernel_rfl) ?_
 all_goals (repeat' ((try (conv=>whnf));first
  |refine aI ?_
  |refine ak ?_ ?_
  |(with_reducible refine aO ?_)
  |(with_reducible refine aT ?_)
  |(with_reducible refine au (λ_=>?_) (λ_=>?_))
  |(with_reducible refine dn (λ_=>?_) (λ_=>?_))
  |refine OnB.mk (λ_=>?_) (λ_=>?_)
  |refine Drw.mk (by kernel_rfl) ?_
  |(with_reducible refine dA ?_)
  |refine Ends.mk ?_))
 all_goals (try refine Pr.mk ?_)
 all_goals (try simp only [gu] at *)
 all_goals first
  |(exfalso;rename ¬True=>h;exact h trivial)
  |(exfalso;omega)
  |(refine bE ?_;rw [qG (by show ¬((3:Int)=1);decide)];done)⟩
instance ZK(l1 l2:ByteArray)(a c n d:P2)(q1:Rat)(r2:Rq):DenI Tryz.prog 96 [.agg [.v (.int .i64 3),.v (.string l1),.sl 8 [aS a],zs q1.num,zl q1.num,zs q1.den,zl q1.den],.agg [.v (.int .i64 2),.v (.string l2),.sl 8 [aS c,aS n,aS d],.v (.bool r2.a),aX r2.l,.v (.bool r2.b),aX r2.m]] (bJ a∧bJ c∧bJ n∧bJ d∧rz q1≤12) (.bool (gV ⟨3,l1,[a],uf q1⟩ ⟨2,l2,[c,n,d],r2⟩)):=⟨λhp=>by
 obtain ⟨g1,g2,g3,g4,g5⟩:=hp
 all_goals refine qg (τ:=tab) Yn eY Tryz.func96 rfl (by kernel_rfl) (by kernel_rfl) (by kernel_rfl) ?_
 all_goals (repeat' ((try (conv=>whnf));first
  |refine aI ?_
  |refine ak ?_ ?_
  |(with_reducible refine aO ?_)
  |(with_reducible refine aT ?_)
  |(with_reducible refine au (λ_=>?_) (λ_=>?_))
  |(with_reducible refine dn (λ_=>?_) (λ_=>?_))
  |refine OnB.mk (λ_=>?_) (λ_=>?_)
  |refine Drw.mk (by kernel_rfl) ?_
  |(with_reducible refine dA ?_)
  |refine Ends.mk ?_))
 all_goals (try refine Pr.mk ?_)
 all_goals (try simp only [gu] at *)
 all_goals first
  |(exfalso;rename ¬True=>h;exact h trivial)
  |(exfalso;omega)
  |(refine bE ?_;rw [qG (by show ¬((3:Int)=2);decide)];done)⟩
instance Zv(l1 l2:ByteArray)(a c:P2)(q1:Rat)(q2:Rat):DenI Tryz.prog 96 [.agg [.v (.int .i64 3),.v (.string l1),.sl 8 [aS a],zs q1.num,zl q1.num,zs q1.den,zl q1.den],.agg [.v (.int .i64 3),.v (.string l2),.sl 8 [aS c],zs q2.num,zl q2.num,zs q2.den,zl q2.den]] (bJ a∧bJ c∧rz q1≤12∧rz q2≤12) (.bool (gV ⟨3,l1,[a],uf q1⟩ ⟨3,l2,[c],uf q2⟩)):=⟨λhp=>by
 obtain ⟨g1,g2,g3,g4⟩:=hp
 all_goals refine qg (τ:=tab) Yn eY Tryz.func96 rfl (by kernel_rfl) (by kernel_rfl) (by kernel_rfl) ?_
 all_goals (repeat' ((try (conv=>whnf));first
  |refine aI ?_
  |refine ak ?_ ?_
  |(with_reducible refine aO ?_)
  |(with_reducible refine aT ?_)
  |(with_reducible refine au (λ_=>?_) (λ_=>?_))
  |(with_reducible refine dn (λ_=>?_) (λ_=>?_))
  |refine OnB.mk (λ_=>?_) (λ_=>?_)
  |refine Drw.mk (by kernel_rfl) ?_
  |(with_reducible refine dA ?_)
  |refine Ends.mk ?_))
 all_goals (try refine Pr.mk ?_)
 all_goals (try simp only [gu] at *)
 all_goals first
  |(exfalso;rename ¬True=>h;exact h trivial)
  |exact ⟨Nat.le_trans g1.1 (by decide),Nat.le_trans g1.2 (by decide),Nat.le_trans g2.1 (by decide),Nat.le_trans g2.2 (by decide)⟩
  |exact ⟨Nat.le_trans g3 (by decide),Nat.le_trans g4 (by decide)⟩
  |(refine bE ?_;rw [PU];simp only [Bool.not_eq_true',Bool.not_eq_false'] at *;simp only [pE, *,Bool.and_true,Bool.true_and,Bool.and_false,Bool.false_and,Bool.or_false,Bool.false_or,Bool.or_true,Bool.true_or,decide_true,decide_false,if_true,if_false,Bool.false_eq_true,Bool.not_true,Bool.not_false,beq_self_eq_true];done)⟩
instance (priority:=2000) ac3(e f:Ent):DenI Tryz.prog 96 [.agg (dD e),.agg (dD f)] (okV e∧okV f) (.bool (gV e f)):=⟨λ⟨h1,h2⟩=>by
 rcases vW h1 with ⟨l1,a,b,r1,rfl,g1,g3,_⟩|⟨l1,a,m,b,r1,rfl,g1,g2,g3,_⟩|⟨l1,a,q1,rfl,g1,_,g7,_⟩<;>rcases vW h2 with ⟨l2,c,d,r2,rfl,g4,g6,_⟩|⟨l2,c,n,d,r2,rfl,g4,g5,g6,_⟩|⟨l2,c,q2,rfl,g4,_,g8,_⟩
 ·exact (abv l1 l2 a b c d r1 r2).den ⟨g1,g3,g4,g6⟩
 ·exact (abM l1 l2 a b c n d r1 r2).den ⟨g1,g3,g4,g5,g6⟩
 ·exact (Zm l1 l2 a b c r1 q2).den ⟨g1,g3,g4,g8⟩
 ·exact (aa3 l1 l2 a m b c d r1 r2).den ⟨g1,g2,g3,g4,g6⟩
 ·exact (aaT l1 l2 a m b c n d r1 r2).den ⟨g1,g2,g3,g4,g5,g6⟩
 ·exact (abg l1 l2 a m b c r1 q2).den ⟨g1,g2,g3,g4,g8⟩
 ·exact (ZF l1 l2 a c d q1 r2).den ⟨g1,g4,g6,g7⟩
 ·exact (ZK l1 l2 a c n d q1 r2).den ⟨g1,g4,g5,g6,g7⟩
 ·exact (Zv l1 l2 a c q1 q2).den ⟨g1,g4,g7,g8⟩⟩
instance (priority:=2000) ae1(e:Ent):DenI Tryz.prog 95 [.agg (dD e)] (e.kind=2∧okV e) (.bool (zO e)):=⟨λ⟨h0,h1⟩=>by
 rcases vW h1 with ⟨l1,a,b,r1,rfl,_⟩|⟨l1,a,m,b,r1,rfl,g1,g2,g3,_⟩|⟨l1,a,q1,rfl,_⟩
 ·cases h0
 ·exact (abI l1 a m b r1).den ⟨g1,g2,g3⟩
 ·cases h0⟩
@[reducible] def bC(b:Bool):List Cell:=[.v (.bool b)]
instance adD(l:List (Ent × Nat)):DenI Tryz.prog 52 [.c (.sl 8 (l.map jm))] (l.length≤12∧∀x∈l,okV x.1) (.c (.sl 1 ((dW (l.map (·.1))).map bC))):=⟨λhp=>by
 obtain ⟨h1,h4⟩:=hp
 all_goals refine qg (τ:=tab) Yn eY Tryz.func52 rfl (by kernel_rfl) (by kernel_rfl) (by kernel_rfl) ?_
 all_goals (repeat' ((try (conv=>whnf));first
  |refine iD ?_ ?_))
 all_goals (try refine Pr.mk ?_)
 all_goals first
  |((conv=>whnf);refine Sw.Loop.inv (α:=Nat) (λx=>[(0,.c (.sl 8 (l.map jm))),(3,.gs 8 l.length),(10,.int .i64 (l.length:Nat)),(11,.int .i64 (x:Nat))]) (λx=>[(8,.grow 4 1 ((wz (l.map (·.1)) x).map bC))]) (λx=>x≤l.length) (λx=>l.length-x) 0 ?_ ?_ ?_ (λx hx=>?_))
  |skip
 all_goals (repeat' ((try (conv=>whnf));first
  |(with_reducible refine au (λ_=>?_) (λ_=>?_))
  |refine bH ?_ ?_
  |refine Ends.mk ?_))
 all_goals (try refine Pr.mk ?_)
 all_goals first
  |((conv=>whnf);refine Sw.Loop.inv (α:=Nat) (λk=>[(0,.c (.sl 8 (l.map jm))),(3,.gs 8 l.length),(4,.int .i64 (x:Nat)),(10,.int .i64 (l.length:Nat)),(11,.int .i64 (x:Nat)),(14,.int .i64 (x:Nat)),(15,.int .i64 (k:Nat))]) (λk=>[(8,.grow 4 1 ((wz (l.map (·.1)) x).map bC))]) (λk=>k≤x∧qP (l.map (·.1)) x k=false) (λk=>x-k) 0 ?_ ?_ ?_ (λk hk=>?_))
  |skip
 all_goals (repeat' ((try (conv=>whnf));first
  |refine ak ?_ ?_
  |(with_reducible refine aO ?_)
  |(with_reducible refine aT ?_)
  |(with_reducible refine au (λ_=>?_) (λ_=>?_))
  |refine OnB.mk (λ_=>?_) (λ_=>?_)
  |refine bH ?_ ?_
  |refine Drw.mk (by kernel_rfl) ?_
  |refine aP N0 ?_ ?_
  |refine aP false ?_ ?_))
 all_goals (try refine Pr.mk ?_)
 all_goals (try simp only [List.length_map,Int.toNat_natCast] at *)
 all_goals first
  |omega
  |trivial
  |exact ⟨Nat.zero_le _,rfl⟩
  |((with_reducible show SubB _ _);refine ⟨?_,trivial⟩;show some (Bk.grow 4 1 _)=some (Bk.grow 4 1 _);rw [Zp,List.map_replicate,List.length_map])
  |(have hrl:=rpL (l:=l) (x:=x) (by omega);omega)
  |exact ⟨Ea h4 (by omega),Ea h4 (by omega)⟩
  |((with_reducible show aA _=_);have hxx:x=l.length:=(by omega);subst hxx;rw [Uf];rfl)
  |(have hh:=YI (l:=l) (x:=x) (k:=k) (by omega) (by omega) hk.2 (by first|exact .inl (by assumption)|exact .inr (by assumption));(conv=>whnf);exact ⟨k+1,⟨⟨rfl,rfl,rfl,rfl,rfl,rfl,bM (by omega),trivial⟩,⟨rfl,trivial⟩,⟨by omega,hh⟩,(by show x-(k+1)<x-k;omega)⟩⟩)
  |(have hh:=X4 (l:=l) (x:=x) (k:=k) (by omega) (by omega) (by assumption) (by assumption);(conv=>whnf);exact ⟨x+1,⟨⟨rfl,rfl,rfl,bM (by omega),trivial⟩,⟨(by rw [hh,List.map_set];(first|done|rfl)),trivial⟩,by omega,(by show l.length-(x+1)<l.length-x;omega)⟩⟩)
  |(have hxx:k=x:=(by omega);subst hxx;have hh:=aaP (l:=l) (x:=k) (by omega) hk.2;(conv=>whnf);exact ⟨k+1,⟨⟨rfl,rfl,rfl,bM (by omega),trivial⟩,⟨(by rw [hh];(first|done|rfl)),trivial⟩,by omega,(by show l.length-(k+1)<l.length-k;omega)⟩⟩)⟩
instance Wp(l:List (Ent × Nat))(i k:Nat)(v:P2):DenI Tryz.prog 97 [.c (.sl 8 (l.map jm)),.int .i64 (i:Nat),.int .i64 (k:Nat),.agg (aS v)] (l.length≤12∧i<l.length∧k≤1∧bJ v∧∀x∈l,SH x.1) (.bool (zJ l (l.getD i N0).1.layer i k v)):=⟨λ⟨h1,h2,hk,h3,h4⟩=>by
 refine qg (τ:=CQ) jO eY Tryz.func97 rfl (by kernel_rfl) (by kernel_rfl) (by kernel_rfl) ?_
 (conv=>whnf)
 refine Sw.Loop.inv (α:=Nat) (λx=>[(0,.c (.sl 8 (l.map jm))),(1,.int .i64 (i:Nat)),(2,.int .i64 (k:Nat)),(7,.ptr 7 0),(15,.c (.sl 8 (l.map jm))),(16,.int .i64 (l.length:Nat)),(17,.int .i64 (x:Nat))]) (λx=>[(7,.var (aS v))]) (λx=>x≤l.length∧∀j<x,metAt l (l.getD i N0).1.layer i k v j=false) (λx=>l.length-x) 0 ?_ ?_ ?_ (λx hx=>?_)
 ·exact ⟨rfl,rfl,rfl,rfl,rfl,by simp only [List.length_map];rfl,rfl,trivial⟩
 ·exact ⟨rfl,trivial⟩
 ·exact ⟨Nat.zero_le _,λj hj=>absurd hj (Nat.not_lt_zero _)⟩
 obtain ⟨hx1,hx2⟩:=hx;obtain ⟨g1,g2,g3⟩:=KY h4 x;rcases ny (l.getD x N0).1 with hE|⟨a,b,hE⟩
 ·haveI ie:DenI Tryz.prog 30 [.agg (dD (l.getD (Int.toNat ((x:Nat):Int)) N0).1)] ((l.getD x N0).1.pts.length≤1000000) (.tup [.c (.sl 8 []),.bool false]):=⟨λhp=>by have:=(kW (l.getD x N0).1).den hp;rw [hE] at this;simpa using this⟩
  all_goals (repeat' ((try (conv=>whnf));first
   |refine ak ?_ ?_
   |(with_reducible refine au (λ_=>?_) (λ_=>?_))
   |refine OnB.mk (λ_=>?_) (λ_=>?_)
   |refine Drw.mk (by kernel_rfl) ?_
   |refine aP N0 ?_ ?_
   |refine Ends.mk ?_))
  all_goals (try refine Pr.mk ?_)
  all_goals first
   |((conv=>whnf);refine Sw.Loop.unroll ?_)
   |skip
  all_goals (repeat' ((try rw [KN]);(try rw [GX]);(try (conv=>whnf));first
   |refine Eb (by simp only [List.length_cons,List.length_nil];decide) ?_))
  all_goals (try simp only [List.length_map,Int.toNat_natCast] at *)
  all_goals first
   |omega
   |((with_reducible show aA [AV.c (Cell.v (Value.bool false))]=_);have hxx:x=l.length:=(by omega);subst hxx;rw [PX hx2];rfl)
   |(have hm:=Ba (i:=i) (k:=k) (v:=v) (l:=l) (x:=x) (by omega) (by assumption);(conv=>whnf);exact ⟨x+1,⟨⟨rfl,rfl,rfl,rfl,rfl,rfl,bM (by omega),trivial⟩,⟨rfl,trivial⟩,⟨by omega,sF hx2 hm⟩,(by show l.length-(x+1)<l.length-x;omega)⟩⟩)
   |(have hm:=LX (s:=(l.getD i N0).1.layer) (i:=i) (k:=k) (v:=v) (l:=l) (x:=x) (by omega) hE;(conv=>whnf);exact ⟨x+1,⟨⟨rfl,rfl,rfl,rfl,rfl,rfl,bM (by omega),trivial⟩,⟨rfl,trivial⟩,⟨by omega,sF hx2 hm⟩,(by show l.length-(x+1)<l.length-x;omega)⟩⟩)
 ·haveI ie:DenI Tryz.prog 30 [.agg (dD (l.getD (Int.toNat ((x:Nat):Int)) N0).1)] ((l.getD x N0).1.pts.length≤1000000) (.tup [.c (.sl 8 [aS a,aS b]),.bool true]):=⟨λhp=>by have:=(kW (l.getD x N0).1).den hp;rw [hE] at this;simpa using this⟩
  have ha:bJ a:=g1 a (iy (by rw [hE];simp));have hb:bJ b:=g1 b (iy (by rw [hE];simp))
  all_goals (repeat' ((try (conv=>whnf));first
   |refine ak ?_ ?_
   |(with_reducible refine au (λ_=>?_) (λ_=>?_))
   |refine OnB.mk (λ_=>?_) (λ_=>?_)
   |refine Drw.mk (by kernel_rfl) ?_
   |refine aP N0 ?_ ?_
   |refine Ends.mk ?_))
  all_goals (try refine Pr.mk ?_)
  all_goals first
   |((conv=>whnf);refine Sw.Loop.unroll ?_)
   |skip
  all_goals (repeat' ((try rw [KN]);(try rw [GX]);(try (conv=>whnf));first
   |refine ak ?_ ?_
   |(with_reducible refine aO ?_)
   |(with_reducible refine aT ?_)
   |(with_reducible refine au (λ_=>?_) (λ_=>?_))
   |(with_reducible refine dn (λ_=>?_) (λ_=>?_))
   |refine OnB.mk (λ_=>?_) (λ_=>?_)
   |(with_reducible refine dA ?_)
   |refine Ends.mk ?_))
  all_goals (try refine Pr.mk ?_)
  all_goals first
   |((conv=>whnf);refine Sw.Loop.unroll ?_)
   |skip
  all_goals (repeat' ((try rw [KN]);(try rw [GX]);(try (conv=>whnf));first
   |refine ak ?_ ?_
   |(with_reducible refine aO ?_)
   |(with_reducible refine aT ?_)
   |(with_reducible refine au (λ_=>?_) (λ_=>?_))
   |(with_reducible refine dn (λ_=>?_) (λ_=>?_))
   |refine OnB.mk (λ_=>?_) (λ_=>?_)
   |(with_reducible refine dN ?_)
   |refine Ends.mk ?_))
  all_goals (try refine Pr.mk ?_)
  all_goals first
   |((conv=>whnf);refine Sw.Loop.unroll ?_)
   |skip
  all_goals (repeat' ((try rw [KN]);(try rw [GX]);(try (conv=>whnf));first
   |(with_reducible refine au (λ_=>?_) (λ_=>?_))))
  all_goals (try simp only [List.length_map,Int.toNat_natCast] at *)
  all_goals first
   |omega
   |((with_reducible show _∧_);first|omega|exact ⟨Nat.le_trans h3.1 (by decide),Nat.le_trans h3.2 (by decide),Nat.le_trans ha.1 (by decide),Nat.le_trans ha.2 (by decide)⟩|exact ⟨Nat.le_trans h3.1 (by decide),Nat.le_trans h3.2 (by decide),Nat.le_trans hb.1 (by decide),Nat.le_trans hb.2 (by decide)⟩)
   |((with_reducible show aA [AV.c (Cell.v (Value.bool false))]=_);have hxx:x=l.length:=(by omega);subst hxx;rw [PX hx2];rfl)
   |((with_reducible show aA [AV.c (Cell.v (Value.bool true))]=_);rw [Yg (x:=x) (by omega) (by (rw [Jo (by omega) hE (by assumption)];clear hx2 h4;grind))];rfl)
   |(exfalso;rename_i q;simp at q;done)
   |(have hm:=Ba (i:=i) (k:=k) (v:=v) (l:=l) (x:=x) (by omega) (by assumption);(conv=>whnf);exact ⟨x+1,⟨⟨rfl,rfl,rfl,rfl,rfl,rfl,bM (by omega),trivial⟩,⟨rfl,trivial⟩,⟨by omega,sF hx2 hm⟩,(by show l.length-(x+1)<l.length-x;omega)⟩⟩)
   |(have hm:metAt l (l.getD i N0).1.layer i k v x=false:=(by (rw [Jo (by omega) hE (by assumption)];clear hx2 h4;grind));(conv=>whnf);exact ⟨x+1,⟨⟨rfl,rfl,rfl,rfl,rfl,rfl,bM (by omega),trivial⟩,⟨rfl,trivial⟩,⟨by omega,sF hx2 hm⟩,(by show l.length-(x+1)<l.length-x;omega)⟩⟩)⟩
instance acw(l:List (Ent × Nat))(i:Nat)(v:P2):DenI Tryz.prog 97 [.c (.sl 8 (l.map jm)),.int .i64 (i:Nat),.int .i64 0,.agg (aS v)] (l.length≤12∧i<l.length∧bJ v∧∀x∈l,SH x.1) (.bool (zJ l (l.getD i N0).1.layer i 0 v)):=⟨λhp=>(Wp l i 0 v).den ⟨hp.1,hp.2.1,by omega,hp.2.2⟩⟩
instance ada(l:List (Ent × Nat))(i:Nat)(v:P2):DenI Tryz.prog 97 [.c (.sl 8 (l.map jm)),.int .i64 (i:Nat),.int .i64 1,.agg (aS v)] (l.length≤12∧i<l.length∧bJ v∧∀x∈l,SH x.1) (.bool (zJ l (l.getD i N0).1.layer i 1 v)):=⟨λhp=>(Wp l i 1 v).den ⟨hp.1,hp.2.1,by omega,hp.2.2⟩⟩
instance adl(l:List (Ent × Nat)):DenI Tryz.prog 54 [.c (.sl 8 (l.map jm))] (l.length≤12∧∀x∈l,SH x.1) (.c (.sl 19 ((Kt l).map vJ))):=⟨λ⟨h1,h4⟩=>by
 refine qg (τ:=CQ) jO eY Tryz.func54 rfl (by kernel_rfl) (by kernel_rfl) (by kernel_rfl) ?_
 (conv=>whnf)
 refine Sw.Loop.ghost 3 100 47 19 ?_ rfl rfl rfl (by decide);refine Sw.Loop.inv (α:=Nat) (λx=>[(0,.c (.sl 8 (l.map jm))),(10,.c (.sl 8 (l.map jm))),(11,.int .i64 (l.length:Nat)),(12,.int .i64 (x:Nat)),(3,.gs 100 ((QL l x).map vJ).length)]) (λx=>[(100,.grow 47 19 ((QL l x).map vJ))]) (λx=>x≤l.length) (λx=>l.length-x) 0 ?_ ?_ ?_ (λx hx=>?_)
 ·exact ⟨rfl,rfl,by simp only [List.length_map];rfl,rfl,rfl,trivial⟩
 ·exact ⟨rfl,trivial⟩
 ·exact Nat.zero_le _
 have hol:=wZ l x hx;obtain ⟨g1,g2,g3⟩:=KY h4 x;rcases ny (l.getD x N0).1 with hE|⟨a,b,hE⟩
 ·haveI ie:DenI Tryz.prog 30 [.agg (dD (l.getD (Int.toNat ((x:Nat):Int)) N0).1)] ((l.getD x N0).1.pts.length≤1000000) (.tup [.c (.sl 8 []),.bool false]):=⟨λhp=>by have:=(kW (l.getD x N0).1).den hp;rw [hE] at this;simpa using this⟩
  all_goals (repeat' ((try (conv=>whnf));first
   |refine ak ?_ ?_
   |(with_reducible refine au (λ_=>?_) (λ_=>?_))
   |refine bH ?_ ?_
   |refine aP N0 ?_ ?_
   |refine Ends.mk ?_))
  all_goals (try refine Pr.mk ?_)
  all_goals first
   |((conv=>whnf);refine Sw.Loop.unroll ?_)
   |skip
  all_goals (repeat' ((try rw [KN]);(try rw [GX]);(try (conv=>whnf));first
   |refine Eb (by simp only [List.length_cons,List.length_nil];decide) ?_))
  all_goals (try simp only [List.length_map,Int.toNat_natCast] at *)
  all_goals first
   |omega
   |((with_reducible show aA _=_);have hxx:x=l.length:=(by omega);subst hxx;rfl)
   |(have hA:=KF (l:=l) (x:=x) (by omega) hE;(conv=>whnf);exact ⟨x+1,⟨⟨rfl,rfl,rfl,bM (by omega),(by (simp only [hA,List.map_append,List.map_cons,List.map_nil,List.append_nil,List.length_append,List.length_map,List.length_cons,List.length_nil]);(first|done|rfl)),trivial⟩,⟨(by (simp only [hA,List.map_append,List.map_cons,List.map_nil,List.append_nil]);(first|done|rfl)),trivial⟩,by omega,(by show l.length-(x+1)<l.length-x;omega)⟩⟩)
 ·haveI ie:DenI Tryz.prog 30 [.agg (dD (l.getD (Int.toNat ((x:Nat):Int)) N0).1)] ((l.getD x N0).1.pts.length≤1000000) (.tup [.c (.sl 8 [aS a,aS b]),.bool true]):=⟨λhp=>by have:=(kW (l.getD x N0).1).den hp;rw [hE] at this;simpa using this⟩
  have ha:bJ a:=g1 a (iy (by rw [hE];simp));have hb:bJ b:=g1 b (iy (by rw [hE];simp))
  all_goals (repeat' ((try (conv=>whnf));first
   |refine ak ?_ ?_
   |(with_reducible refine au (λ_=>?_) (λ_=>?_))
   |refine bH ?_ ?_
   |refine aP N0 ?_ ?_
   |refine Ends.mk ?_))
  all_goals (try refine Pr.mk ?_)
  all_goals first
   |((conv=>whnf);refine Sw.Loop.unroll ?_)
   |skip
  all_goals (repeat' ((try rw [KN]);(try rw [GX]);(try (conv=>whnf));first
   |refine ak ?_ ?_
   |(with_reducible refine au (λ_=>?_) (λ_=>?_))
   |refine OnB.mk (λ_=>?_) (λ_=>?_)
   |refine bH ?_ ?_
   |(with_reducible refine dA ?_)))
  all_goals (try refine Pr.mk ?_)
  all_goals first
   |((conv=>whnf);refine Sw.Loop.unroll ?_)
   |skip
  all_goals (repeat' ((try rw [KN]);(try rw [GX]);(try (conv=>whnf));first
   |refine ak ?_ ?_
   |(with_reducible refine au (λ_=>?_) (λ_=>?_))
   |refine OnB.mk (λ_=>?_) (λ_=>?_)
   |refine bH ?_ ?_
   |(with_reducible refine dN ?_)))
  all_goals (try refine Pr.mk ?_)
  all_goals first
   |((conv=>whnf);refine Sw.Loop.unroll ?_)
   |skip
  all_goals (repeat' ((try rw [KN]);(try rw [GX]);(try (conv=>whnf));first
   |(with_reducible refine au (λ_=>?_) (λ_=>?_))))
  all_goals (try simp only [List.length_map,Int.toNat_natCast] at *)
  all_goals first
   |omega
   |((with_reducible show (_:Nat)≤_);simp only [List.length_append,List.length_map,List.length_cons,List.length_nil];omega)
   |((with_reducible show _∧_);first|omega|exact ⟨h1,by omega,ha,h4⟩|exact ⟨h1,by omega,hb,h4⟩)
   |((with_reducible show aA _=_);have hxx:x=l.length:=(by omega);subst hxx;rfl)
   |(exfalso;rename_i q;simp at q;done)
   |(have hA:=Jl (l:=l) (x:=x) (by omega) hE;first|(have q1:=Bq (n:=(l.getD x N0).2) (l:=l) (s:=(l.getD x N0).1.layer) (i:=x) (k:=0) (v:=a) (by assumption);have q2:=Bq (n:=(l.getD x N0).2) (l:=l) (s:=(l.getD x N0).1.layer) (i:=x) (k:=1) (v:=b) (by assumption);(conv=>whnf);exact ⟨x+1,⟨⟨rfl,rfl,rfl,bM (by omega),(by (simp only [hA,q1,q2,List.nil_append,List.cons_append,List.append_assoc,List.map_append,List.map_cons,List.map_nil,List.append_nil,List.length_append,List.length_map,List.length_cons,List.length_nil]);(first|done|rfl)),trivial⟩,⟨(by (simp only [hA,q1,q2,List.nil_append,List.cons_append,List.append_assoc,List.map_append,List.map_cons,List.map_nil,List.append_nil]);(first|done|rfl)),trivial⟩,by omega,(by show l.length-(x+1)<l.length-x;omega)⟩⟩)|(have q1:=Bq (n:=(l.getD x N0).2) (l:=l) (s:=(l.getD x N0).1.layer) (i:=x) (k:=0) (v:=a) (by assumption);have q2:=BR (n:=(l.getD x N0).2) (l:=l) (s:=(l.getD x N0).1.layer) (i:=x) (k:=1) (v:=b) (by assumption);(conv=>whnf);exact ⟨x+1,⟨⟨rfl,rfl,rfl,bM (by omega),(by (simp only [hA,q1,q2,List.nil_append,List.cons_append,List.append_assoc,List.map_append,List.map_cons,List.map_nil,List.append_nil,List.length_append,List.length_map,List.length_cons,List.length_nil]);(first|done|rfl)),trivial⟩,⟨(by (simp only [hA,q1,q2,List.nil_append,List.cons_append,List.append_assoc,List.map_append,List.map_cons,List.map_nil,List.append_nil]);(first|done|rfl)),trivial⟩,by omega,(by show l.length-(x+1)<l.length-x;omega)⟩⟩)|(have q1:=BR (n:=(l.getD x N0).2) (l:=l) (s:=(l.getD x N0).1.layer) (i:=x) (k:=0) (v:=a) (by assumption);have q2:=Bq (n:=(l.getD x N0).2) (l:=l) (s:=(l.getD x N0).1.layer) (i:=x) (k:=1) (v:=b) (by assumption);(conv=>whnf);exact ⟨x+1,⟨⟨rfl,rfl,rfl,bM (by omega),(by (simp only [hA,q1,q2,List.nil_append,List.cons_append,List.append_assoc,List.map_append,List.map_cons,List.map_nil,List.append_nil,List.length_append,List.length_map,List.length_cons,List.length_nil]);(first|done|rfl)),trivial⟩,⟨(by (simp only [hA,q1,q2,List.nil_append,List.cons_append,List.append_assoc,List.map_append,List.map_cons,List.map_nil,List.append_nil]);(first|done|rfl)),trivial⟩,by omega,(by show l.length-(x+1)<l.length-x;omega)⟩⟩)|(have q1:=BR (n:=(l.getD x N0).2) (l:=l) (s:=(l.getD x N0).1.layer) (i:=x) (k:=0) (v:=a) (by assumption);have q2:=BR (n:=(l.getD x N0).2) (l:=l) (s:=(l.getD x N0).1.layer) (i:=x) (k:=1) (v:=b) (by assumption);(conv=>whnf);exact ⟨x+1,⟨⟨rfl,rfl,rfl,bM (by omega),(by (simp only [hA,q1,q2,List.nil_append,List.cons_append,List.append_assoc,List.map_append,List.map_cons,List.map_nil,List.append_nil,List.length_append,List.length_map,List.length_cons,List.length_nil]);(first|done|rfl)),trivial⟩,⟨(by (simp only [hA,q1,q2,List.nil_append,List.cons_append,List.append_assoc,List.map_append,List.map_cons,List.map_nil,List.append_nil]);(first|done|rfl)),trivial⟩,by omega,(by show l.length-(x+1)<l.length-x;omega)⟩⟩))⟩
set_option maxHeartbeats 16000000 in
instance aei(l:List (Ent × Nat)):DenI Tryz.prog 51 [.c (.sl 8 (l.map jm))] (l.length≤12∧∀x∈l,okV x.1) (.tup [.c (.sl 8 ((rD l).map jm)),.c (.sl 19 ((pF l).map vJ))]):=⟨λ⟨h1,h4⟩=>by
 refine qg (τ:=CQ) jO eY Tryz.func51 rfl (by kernel_rfl) (by kernel_rfl) (by kernel_rfl) ?_
 (conv=>whnf)
 refine Sw.Loop.ghost 4 100 86 8 ?_ rfl rfl rfl (by decide);refine Sw.Loop.ghost 5 101 47 19 ?_ rfl rfl rfl (by decide);refine Sw.Loop.inv (α:=Nat) (λx=>[(10,.c (.sl 8 (l.map jm))),(11,.int .i64 (l.length:Nat)),(12,.int .i64 (x:Nat)),(4,.gs 100 ((NS l x).map jm).length),(5,.gs 101 ((NP l x).map vJ).length)]) (λx=>[(100,.grow 86 8 ((NS l x).map jm)),(101,.grow 47 19 ((NP l x).map vJ))]) (λx=>x≤l.length) (λx=>l.length-x) 0 ?_ ?_ ?_ (λx hx=>?_)
 ·exact ⟨rfl,by simp only [List.length_map];rfl,rfl,rfl,rfl,trivial⟩
 ·exact ⟨rfl,rfl,trivial⟩
 ·exact Nat.zero_le _
 obtain ⟨hk1,hk2⟩:=CX l x
 by_cases hxl:x<l.length
 ·have g0:=Ea h4 hxl;obtain ⟨g1,g2,g3⟩:=g0.2;rcases ny (l.getD x N0).1 with hE|⟨a,b,hE⟩
  ·haveI ie:DenI Tryz.prog 30 [.agg (dD (l.getD (Int.toNat ((x:Nat):Int)) N0).1)] ((l.getD x N0).1.pts.length≤1000000) (.tup [.c (.sl 8 []),.bool false]):=⟨λhp=>by have:=(kW (l.getD x N0).1).den hp;rw [hE] at this;simpa using this⟩
   all_goals (repeat' ((try (conv=>whnf));first
    |refine ak ?_ ?_
    |(with_reducible refine aO ?_)
    |(with_reducible refine aT ?_)
    |(with_reducible refine au (λ_=>?_) (λ_=>?_))
    |refine OnB.mk (λ_=>?_) (λ_=>?_)
    |refine bH ?_ ?_
    |refine Drw.mk (by kernel_rfl) ?_
    |refine aP N0 ?_ ?_
    |refine Ends.mk ?_))
   all_goals (try refine Pr.mk ?_)
   all_goals (try simp only [List.length_map,Int.toNat_natCast] at *)
   all_goals first
    |omega
    |((with_reducible show (_:Nat)≤_);simp only [List.length_append,List.length_map,List.length_cons,List.length_nil];omega)
    |exact ⟨by assumption,g0⟩
    |(have hf:jV (l.getD x N0).1=5:=(by rw [KD hE,if_pos ⟨by assumption,by assumption⟩]);obtain ⟨h5,h6⟩:=Py (l:=l) (x:=x) (k:=4) (by omega) hf;(conv=>whnf);exact ⟨x+1,⟨⟨rfl,rfl,bM (by omega),(by (simp only [h5,h6,List.map_append,List.map_cons,List.map_nil,List.append_nil,List.length_append,List.length_map,List.length_cons,List.length_nil]);(first|done|rfl)),(by (simp only [h5,h6,List.map_append,List.map_cons,List.map_nil,List.append_nil,List.length_append,List.length_map,List.length_cons,List.length_nil]);(first|done|rfl)),trivial⟩,⟨(by (simp only [h5,h6,List.map_append,List.map_cons,List.map_nil,List.append_nil]);(first|done|rfl)),(by (simp only [h5,h6,List.map_append,List.map_cons,List.map_nil,List.append_nil]);(first|done|rfl)),trivial⟩,by omega,(by show l.length-(x+1)<l.length-x;omega)⟩⟩)
    |(have hf:jV (l.getD x N0).1=0:=(by rw [KD hE,if_neg (by simp_all;done)]);obtain ⟨h5,h6⟩:=WG (l:=l) (x:=x) (by omega) hf;(conv=>whnf);exact ⟨x+1,⟨⟨rfl,rfl,bM (by omega),(by (simp only [h5,h6,List.map_append,List.map_cons,List.map_nil,List.append_nil,List.length_append,List.length_map,List.length_cons,List.length_nil]);(first|done|rfl)),(by (simp only [h5,h6,List.map_append,List.map_cons,List.map_nil,List.append_nil,List.length_append,List.length_map,List.length_cons,List.length_nil]);(first|done|rfl)),trivial⟩,⟨(by (simp only [h5,h6,List.map_append,List.map_cons,List.map_nil,List.append_nil]);(first|done|rfl)),(by (simp only [h5,h6,List.map_append,List.map_cons,List.map_nil,List.append_nil]);(first|done|rfl)),trivial⟩,by omega,(by show l.length-(x+1)<l.length-x;omega)⟩⟩)
  ·haveI ie:DenI Tryz.prog 30 [.agg (dD (l.getD (Int.toNat ((x:Nat):Int)) N0).1)] ((l.getD x N0).1.pts.length≤1000000) (.tup [.c (.sl 8 [aS a,aS b]),.bool true]):=⟨λhp=>by have:=(kW (l.getD x N0).1).den hp;rw [hE] at this;simpa using this⟩
   have ha:bJ a:=g1 a (iy (by rw [hE];simp));have hb:bJ b:=g1 b (iy (by rw [hE];simp))
   all_goals (repeat' ((try (conv=>whnf));first
    |refine ak ?_ ?_
    |(with_reducible refine aO ?_)
    |(with_reducible refine aT ?_)
    |(with_reducible refine au (λ_=>?_) (λ_=>?_))
    |refine OnB.mk (λ_=>?_) (λ_=>?_)
    |refine bH ?_ ?_
    |refine Drw.mk (by kernel_rfl) ?_
    |(with_reducible refine dA ?_)
    |(with_reducible refine dN ?_)
    |refine aP N0 ?_ ?_
    |refine Ends.mk ?_))
   all_goals (try refine Pr.mk ?_)
   all_goals (try simp only [List.length_map,Int.toNat_natCast] at *)
   all_goals first
    |omega
    |((with_reducible show (_:Nat)≤_);simp only [List.length_append,List.length_map,List.length_cons,List.length_nil];omega)
    |exact ⟨by assumption,g0⟩
    |exact ⟨Nat.le_trans ha.1 (by decide),Nat.le_trans ha.2 (by decide),Nat.le_trans hb.1 (by decide),Nat.le_trans hb.2 (by decide)⟩
    |(have hf:=SN (a:=a) (b:=b) hE (by assumption);obtain ⟨h5,h6⟩:=Py (l:=l) (x:=x) (k:=1) (by omega) hf;(conv=>whnf);exact ⟨x+1,⟨⟨rfl,rfl,bM (by omega),(by (simp only [h5,h6,List.map_append,List.map_cons,List.map_nil,List.append_nil,List.length_append,List.length_map,List.length_cons,List.length_nil]);(first|done|rfl)),(by (simp only [h5,h6,List.map_append,List.map_cons,List.map_nil,List.append_nil,List.length_append,List.length_map,List.length_cons,List.length_nil]);(first|done|rfl)),trivial⟩,⟨(by (simp only [h5,h6,List.map_append,List.map_cons,List.map_nil,List.append_nil]);(first|done|rfl)),(by (simp only [h5,h6,List.map_append,List.map_cons,List.map_nil,List.append_nil]);(first|done|rfl)),trivial⟩,by omega,(by show l.length-(x+1)<l.length-x;omega)⟩⟩)
    |(have hf:jV (l.getD x N0).1=5:=(by rw [Jt (a:=a) (b:=b) hE (by assumption),if_pos ⟨by assumption,by assumption⟩]);obtain ⟨h5,h6⟩:=Py (l:=l) (x:=x) (k:=4) (by omega) hf;(conv=>whnf);exact ⟨x+1,⟨⟨rfl,rfl,bM (by omega),(by (simp only [h5,h6,List.map_append,List.map_cons,List.map_nil,List.append_nil,List.length_append,List.length_map,List.length_cons,List.length_nil]);(first|done|rfl)),(by (simp only [h5,h6,List.map_append,List.map_cons,List.map_nil,List.append_nil,List.length_append,List.length_map,List.length_cons,List.length_nil]);(first|done|rfl)),trivial⟩,⟨(by (simp only [h5,h6,List.map_append,List.map_cons,List.map_nil,List.append_nil]);(first|done|rfl)),(by (simp only [h5,h6,List.map_append,List.map_cons,List.map_nil,List.append_nil]);(first|done|rfl)),trivial⟩,by omega,(by show l.length-(x+1)<l.length-x;omega)⟩⟩)
    |(have hf:jV (l.getD x N0).1=0:=(by rw [Jt (a:=a) (b:=b) hE (by assumption),if_neg (by simp_all;done)]);obtain ⟨h5,h6⟩:=WG (l:=l) (x:=x) (by omega) hf;(conv=>whnf);exact ⟨x+1,⟨⟨rfl,rfl,bM (by omega),(by (simp only [h5,h6,List.map_append,List.map_cons,List.map_nil,List.append_nil,List.length_append,List.length_map,List.length_cons,List.length_nil]);(first|done|rfl)),(by (simp only [h5,h6,List.map_append,List.map_cons,List.map_nil,List.append_nil,List.length_append,List.length_map,List.length_cons,List.length_nil]);(first|done|rfl)),trivial⟩,⟨(by (simp only [h5,h6,List.map_append,List.map_cons,List.map_nil,List.append_nil]);(first|done|rfl)),(by (simp only [h5,h6,List.map_append,List.map_cons,List.map_nil,List.append_nil]);(first|done|rfl)),trivial⟩,by omega,(by show l.length-(x+1)<l.length-x;omega)⟩⟩)
 ·have hxx:x=l.length:=(by omega)
  subst hxx
  all_goals (repeat' ((try (conv=>whnf));first
   |refine ak ?_ ?_
   |(with_reducible refine aO ?_)
   |(with_reducible refine aT ?_)
   |(with_reducible refine au (λ_=>?_) (λ_=>?_))
   |refine OnB.mk (λ_=>?_) (λ_=>?_)
   |refine bH ?_ ?_
   |refine Drw.mk (by kernel_rfl) ?_
   |refine aP N0 ?_ ?_
   |refine Ends.mk ?_))
  all_goals (try refine Pr.mk ?_)
  all_goals first
   |(exfalso;omega)
   |((with_reducible show (_:Nat)=_);rfl)
   |((with_reducible show aA _=_);rw [J7,Jv];rfl)⟩
instance ae8(sq:Rat)(sp:dX)(n:Nat)(s:ByteArray)(v:P2):DenI Tryz.prog 92 [.gh (Cm Tryz.prog 9 45 8 (Fq sq sp n)),.c (.v (.string s)),.agg (aS v)] (s.size≤1000∧rz v.1≤12∧rz v.2≤12∧rz sq≤1000∧n≤1000000∧(∀p∈bF sp s,rz p.1≤12∧rz p.2≤12)∧(bF sp s).length≤1000000)
 (.tup [.gh (Cm Tryz.prog 9 45 8 (Fq sq (bK sq sp s v).1 (n+1))),.agg (aS (bK sq sp s v).2)]):=⟨λ⟨h1,h2,h3,h4,h5,h6,h7⟩=>aaA sq sp n s v h1 h2 h3 h4 h5 h6 h7⟩
instance ZV(e:Ent)(a b:P2):DenI Tryz.prog 94 [.agg (dD e),.c (.sl 8 ([cellsOf (.agg (aS a))]++[cellsOf (.agg (aS b))]))] (e.pts.length≤1000000∧2=(aZ e).length) (.agg (dD (fF e [a,b]))):=⟨λhp=>(inferInstance:DenI Tryz.prog 94 [.agg (dD e),.c (.sl 8 ([a,b].map aS))] (e.pts.length≤1000000∧[a,b].length=(aZ e).length) (.agg (dD (fF e [a,b])))).den hp⟩
theorem dS{l:List Ent}{e:Ent}{x:Nat}(h:l.length=x):(l++[e]).zipIdx=l.zipIdx++[(e,x)]:=by subst h;simp [List.zipIdx_append]
set_option maxHeartbeats 16000000 in
theorem XA(tol:Rat)(es:List Ent)(sL:Nat)(ls:List (List Cell))(ht:rz tol≤12)(hle:es.length≤12)(hes:∀e∈es,(∀p∈e.pts,bJ p)∧e.layer.size≤1000∧e.pts.length≤3):
 Den Tryz.prog 50 [.agg [.sl sL ls,.sl 7 (es.map dD)],R tol] (.tup [.c (.sl 8 ((dB (tol*tol) 0 [] es).es.zipIdx.map jm)),.own 47 19 ((dB (tol*tol) 0 [] es).cs.map vJ)]):=by
 have i_t:RzB tol 12:=⟨ht⟩
 have hsq:rz (tol*tol)≤1000:=uF (by omega);have hj:=Jk (q:=bJ) (sq:=tol*tol) (es:=es) (λe he=>(hes e he).1);refine Den.of ⟨by kernel_rfl,λw X vs ho hX hl hR=>?_⟩ rfl
 haveI:WOk Tryz.prog w:=⟨ho⟩
 refine enter Tryz.func50 rfl rfl (by rw [hl];rfl) λa hF=>?_
 have hc:=uK (N:=76) hX hl hR hF;refine aC (jk (τ:=MF) qI eY _ (QA:=λz e b=>z=.normal∧SubE [(2,.ptr 2 0),(3,.ptr 3 0),(4,.c (.v (.slice none 0 0))),(5,.c (.v (.slice none 0 0)))] e∧SubB [(2,.var [.sl sL ls,.sl 7 (es.map dD)]),(3,.var (zD tol))] b) (by kernel_rfl) ?_ hc ?_)
 case refine_1 =>
  exact ⟨rfl,⟨rfl,rfl,rfl,rfl,trivial⟩,⟨rfl,rfl,trivial⟩⟩
 clear hc;rintro x e b a w1 ⟨rfl,he,hb⟩ hc;replace hc:=hc.sub he hb;clear he hb;refine dh ?_;obtain ⟨S,M,hs⟩:=hc;refine aC (aF ?_);refine wp1 rfl Hr ?_;have hB1:Below w1.heap.size w1 (w1.alloc (.map #[] 0)):=FW w1 _;have hs2:=(hs.below hB1).putV (t:=17) (u:=.map (some w1.heap.size)) (v:=.any) ⟨by decide,rfl⟩ .any;have hm2:(w1.alloc (.map #[] 0)).heap[w1.heap.size]?=some (.map #[] 0):=P9 w1 _;generalize w1.alloc (.map #[] 0)=w2 at hB1 hs2 hm2 ⊢;generalize hg0:w1.heap.size=g0 at hs2 hm2 ⊢;obtain ⟨g3,T3,c3,v3,hh3,hr3⟩:=hs2.var (t:=3) (i:=3) rfl rfl;have hl3:c3.size=4:=by have:=hr3.len;simpa using this
 have hrow:isRow Tryz.prog 30 4=true:=by kernel_rfl
 have hFm:Frm 76 _ [(3,.pointer (some ⟨g3,0,none⟩)),(17,.map (some g0))]:=(hs2.frm.cons (bV _ hs.sz (by decide))).cons v3;refine wp1 rfl (pW hrow (hFm.ev rfl) hh3 (by simp [hl3])) ?_;have hs3:=hs2.putV (t:=18) (u:=.agg c3) (v:=.any) ⟨by decide,rfl⟩ .any;replace hFm:=hFm.put (d:=18) (by decide) (.agg c3);refine wp1 rfl (pW hrow (hFm.ev rfl) hh3 (by simp [hl3])) ?_;have hs4:=hs3.putV (t:=19) (u:=.agg c3) (v:=.any) ⟨by decide,rfl⟩ .any;replace hFm:=hFm.put (d:=19) (by decide) (.agg c3)
 have hd3:RepD w2 (bl S++X) (.agg c3) (R tol):=by
  obtain ⟨c3⟩:=c3;exact .agg hr3
 have hden:=((inferInstance:DenI Tryz.prog 91 [R tol,R tol] _ (R (tol*tol))).den (by exact ⟨Nat.le_trans ht (by decide),Nat.le_trans ht (by decide)⟩)).old rfl;have hok2:Wld.ok Tryz.prog w2:=Wld.keep (Wld.keep ho hs.ms.st.below) hB1
 have hcall:=hden.2 w2 (bl S++X) [.agg c3,.agg c3] hok2 hs4.bnd rfl (λi u v hu hv=>by
  match i,hu,hv with
  |0,hu,hv=>cases hu;cases hv;exact hd3
  |1,hu,hv=>cases hu;cases hv;exact hd3)
 refine acr rfl (Ky (by kernel_rfl) (acv (hFm.ev rfl) (hFm.ev rfl)) rfl) hcall ?_;rintro u5 w3 ⟨hR5,hB3⟩;obtain ⟨us5,rfl,hr5⟩:=hR5.agg;have hl5:us5.length=4:=by have:=hr5.len;simpa using this
 have hs5:=(hs4.below hB3).putV (t:=20) (u:=.agg us5.toArray) (v:=.any) ⟨by decide,rfl⟩ .any;replace hFm:=hFm.put (d:=20) (by decide) (.agg us5.toArray);have hm3:w3.heap[g0]?=some (.map #[] 0):=(hB3.block _ (lt_of_heap hm2)).trans hm2;refine wp1 rfl (H7 (hFm.ev rfl) rfl (hFm.ev rfl) (Fz (aN jO (t:=133) rfl) rfl hl5)) ?_;have hs6:=hs5.putV (t:=21) (u:=.agg (#[.map (some g0)]++us5.toArray)) (v:=.any) ⟨by decide,rfl⟩ .any;replace hFm:=hFm.put (d:=21) (by decide) (.agg (#[.map (some g0)]++us5.toArray));refine wp1 rfl (I7 (hFm.ev rfl)) ?_;have hc:=Sta.ghost0 (i:=22) (T:=133) (us:=.map (some g0) :: us5) (G:=Cm Tryz.prog 9 45 8 (Fq (tol*tol) [] 0)) (g0:=g0) hs hs6 (by omega) hm3 rfl rfl rfl ⟨by decide,rfl⟩ (aaQ hr5);rw [show (Value.map (some g0) :: us5).toArray=(Value.agg (#[.map (some g0)]++us5.toArray)).cells by simp [Value.cells]] at hc;refine xH qI (k:=λe b=>SubE [(6,.ptr 22 0),(2,.ptr 2 0)] e∧SubB [(22,.gh (Cm Tryz.prog 9 45 8 (Fq (tol*tol) [] 0))),(2,.var [.sl sL ls,.sl 7 (es.map dD)])] b) ?_ (by kernel_rfl) ?_ hc
 case refine_2 =>
  exact ⟨⟨rfl,rfl,trivial⟩,⟨rfl,rfl,trivial⟩⟩
 clear hc hFm hs6 hm3 hs5 hl5 hR5 hr5 hB3 hcall hok2 hden hd3 hs4 hs3 hrow hl3 hr3 hh3 v3 hm2 hs2 hg0 hB1 hs hF hR hl hX;rintro e b a w4 ⟨he,hb⟩ hc;replace hc:=hc.sub he hb;clear he hb;refine dh ?_;refine jk (τ:=MF) qI eY _ (QA:=U4 MF _ [none,some (47,19)] (.tup [.c (.sl 8 ((dB (tol*tol) 0 [] es).es.zipIdx.map jm)),.own 47 19 ((dB (tol*tol) 0 [] es).cs.map vJ)])) (by kernel_rfl) ?_ hc (λx e b a w' hx hc'=>KJ qI hx hc');clear hc ho
 (conv=>whnf);refine Sw.Loop.ghost 7 100 86 8 ?_ rfl rfl rfl (by decide)
 refine Sw.Loop.ghost 8 101 47 19 ?_ rfl rfl rfl (by decide);refine Sw.Loop.inv (α:=Nat) (λx=>[(6,.ptr 22 0),(24,.c (.sl 7 (es.map dD))),(25,.int .i64 (es.length:Nat)),(26,.int .i64 (x:Nat)),(7,.gs 100 ((jA (tol*tol) es x).es.zipIdx.map jm).length),(8,.gs 101 ((jA (tol*tol) es x).cs.map vJ).length)]) (λx=>[(22,.gh (Cm Tryz.prog 9 45 8 (Fq (tol*tol) (jA (tol*tol) es x).sp (nE es x)))),(100,.grow 86 8 ((jA (tol*tol) es x).es.zipIdx.map jm)),(101,.grow 47 19 ((jA (tol*tol) es x).cs.map vJ))]) (λx=>x≤es.length) (λx=>es.length-x) 0 ?_ ?_ ?_ (λx hx=>?_)
 ·exact ⟨rfl,rfl,by simp only [List.length_map];rfl,rfl,rfl,rfl,trivial⟩
 ·exact ⟨rfl,rfl,rfl,trivial⟩
 ·exact Nat.zero_le _
 obtain ⟨j1,j2,j3,j4,j5⟩:=hj x hx;obtain ⟨g1,g2,g3'⟩:=Tn hes x;have hn2:=J5 es x;rcases ny (es.getD x E0) with hE|⟨a,b,hE⟩
 ·haveI ie:DenI Tryz.prog 30 [.agg (dD (es.getD (Int.toNat ((x:Nat):Int)) E0))] ((es.getD x E0).pts.length≤1000000) (.tup [.c (.sl 8 []),.bool false]):=⟨λhp=>by have:=(kW (es.getD x E0)).den hp;rw [hE] at this;simpa using this⟩
  all_goals (repeat' ((try (conv=>whnf));first
   |refine ak ?_ ?_
   |(with_reducible refine au (λ_=>?_) (λ_=>?_))
   |refine bH ?_ ?_
   |refine aP E0 ?_ ?_
   |refine Ends.mk ?_))
  all_goals (try refine Pr.mk ?_)
  all_goals first
   |((conv=>whnf);refine Sw.Loop.unroll ?_)
   |skip
  all_goals (repeat' ((try rw [KN]);(try rw [GX]);(try (conv=>whnf));first
   |refine ak ?_ ?_
   |refine Eb (by simp only [List.length_cons,List.length_nil];decide) ?_
   |refine bH ?_ ?_))
  all_goals (try refine Pr.mk ?_)
  all_goals (try simp only [List.length_map,Int.toNat_natCast] at *)
  all_goals first
   |((with_reducible show (_:Nat)=_);rfl)
   |omega
   |((with_reducible show (_:Nat)≤_);simp only [List.length_append,List.length_map,List.length_zipIdx,List.length_cons,List.length_nil];omega)
   |((with_reducible show aA _=_);have hxx:x=es.length:=(by omega);subst hxx;rw [BD];rfl)
   |(obtain ⟨hA,hN⟩:=YA (tol*tol) es (x:=x) (by omega) hE;(conv=>whnf);exact ⟨x+1,⟨⟨rfl,rfl,rfl,bM (by omega),(by (simp only [hA,hN,dS j5,List.map_append,List.map_cons,List.map_nil,List.append_nil,List.length_append,List.length_map,List.length_cons,List.length_nil]);(first|done|rfl)),(by (simp only [hA,hN,dS j5,List.map_append,List.map_cons,List.map_nil,List.append_nil,List.length_append,List.length_map,List.length_cons,List.length_nil]);(first|done|rfl)),trivial⟩,⟨(by (simp only [hA,hN,dS j5,List.map_append,List.map_cons,List.map_nil,List.append_nil]);(first|done|rfl)),(by (simp only [hA,hN,dS j5,List.map_append,List.map_cons,List.map_nil,List.append_nil]);(first|done|rfl)),(by (simp only [hA,hN,dS j5,List.map_append,List.map_cons,List.map_nil,List.append_nil]);(first|done|rfl)),trivial⟩,by omega,(by show es.length-(x+1)<es.length-x;omega)⟩⟩)
 ·haveI ie:DenI Tryz.prog 30 [.agg (dD (es.getD (Int.toNat ((x:Nat):Int)) E0))] ((es.getD x E0).pts.length≤1000000) (.tup [.c (.sl 8 [aS a,aS b]),.bool true]):=⟨λhp=>by have:=(kW (es.getD x E0)).den hp;rw [hE] at this;simpa using this⟩
  have ha:bJ a:=g1 a (iy (by rw [hE];simp));have hb:bJ b:=g1 b (iy (by rw [hE];simp));have f1:=uX (q:=bJ) (sq:=tol*tol) (s:=(es.getD x E0).layer) j1 ha;have f2:=uX (q:=bJ) (sq:=tol*tol) (s:=(es.getD x E0).layer) f1.1 hb
  all_goals (repeat' ((try (conv=>whnf));first
   |refine ak ?_ ?_
   |(with_reducible refine au (λ_=>?_) (λ_=>?_))
   |refine bH ?_ ?_
   |refine aP E0 ?_ ?_
   |refine Ends.mk ?_))
  all_goals (try refine Pr.mk ?_)
  all_goals first
   |((conv=>whnf);refine Sw.Loop.unroll ?_)
   |skip
  all_goals (repeat' ((try rw [KN]);(try rw [GX]);(try (conv=>whnf));first
   |refine ak ?_ ?_
   |(with_reducible refine au (λ_=>?_) (λ_=>?_))
   |refine OnB.mk (λ_=>?_) (λ_=>?_)
   |refine bH ?_ ?_
   |(with_reducible refine dA ?_)))
  all_goals (try refine Pr.mk ?_)
  all_goals first
   |((conv=>whnf);refine Sw.Loop.unroll ?_)
   |skip
  all_goals (repeat' ((try rw [KN]);(try rw [GX]);(try (conv=>whnf));first
   |refine ak ?_ ?_
   |(with_reducible refine au (λ_=>?_) (λ_=>?_))
   |refine OnB.mk (λ_=>?_) (λ_=>?_)
   |refine bH ?_ ?_
   |(with_reducible refine dN ?_)))
  all_goals (try refine Pr.mk ?_)
  all_goals first
   |((conv=>whnf);refine Sw.Loop.unroll ?_)
   |skip
  all_goals (repeat' ((try rw [KN]);(try rw [GX]);(try (conv=>whnf));first
   |refine ak ?_ ?_
   |(with_reducible refine au (λ_=>?_) (λ_=>?_))
   |refine bH ?_ ?_))
  all_goals (try refine Pr.mk ?_)
  all_goals (try simp only [List.length_map,Int.toNat_natCast] at *)
  all_goals first
   |((with_reducible show (_:Nat)=_);rfl)
   |omega
   |((with_reducible show (_:Nat)≤_);simp only [List.length_append,List.length_map,List.length_zipIdx,List.length_cons,List.length_nil];omega)
   |((with_reducible show aA _=_);have hxx:x=es.length:=(by omega);subst hxx;rw [BD];rfl)
   |((with_reducible show _∧_);first|exact ⟨g2,ha.1,ha.2,hsq,by omega,spq j1,by have:=wL (jA (tol*tol) es x).sp (es.getD x E0).layer;omega⟩|exact ⟨g2,hb.1,hb.2,hsq,by omega,spq f1.1,by have:=wL (bK (tol*tol) (jA (tol*tol) es x).sp (es.getD x E0).layer a).1 (es.getD x E0).layer;have:=f1.2.2;omega⟩|exact ⟨Nat.le_trans ha.1 (by decide),Nat.le_trans ha.2 (by decide),Nat.le_trans f1.2.1.1 (by decide),Nat.le_trans f1.2.1.2 (by decide)⟩|exact ⟨Nat.le_trans hb.1 (by decide),Nat.le_trans hb.2 (by decide),Nat.le_trans f2.2.1.1 (by decide),Nat.le_trans f2.2.1.2 (by decide)⟩|exact ⟨by omega,by rw [hE];rfl⟩)
   |(exfalso;rename_i q;simp at q;done)
   |(obtain ⟨hA,hN⟩:=WX (tol*tol) es (x:=x) (by omega) hE;first|(have q1:=TU (i:=x) (k:=0) (a:=a) (w:=(bK (tol*tol) (jA (tol*tol) es x).sp (es.getD x E0).layer a).2) (by assumption);have q2:=TU (i:=x) (k:=1) (a:=b) (w:=(bK (tol*tol) (bK (tol*tol) (jA (tol*tol) es x).sp (es.getD x E0).layer a).1 (es.getD x E0).layer b).2) (by assumption);(conv=>whnf);exact ⟨x+1,⟨⟨rfl,rfl,rfl,bM (by omega),(by (simp only [hA,hN,q1,q2,dS j5,List.nil_append,List.cons_append,List.append_assoc,List.map_append,List.map_cons,List.map_nil,List.append_nil,List.length_append,List.length_map,List.length_cons,List.length_nil]);(first|done|rfl)),(by (simp only [hA,hN,q1,q2,dS j5,List.nil_append,List.cons_append,List.append_assoc,List.map_append,List.map_cons,List.map_nil,List.append_nil,List.length_append,List.length_map,List.length_cons,List.length_nil]);(first|done|rfl)),trivial⟩,⟨(by (simp only [hA,hN,q1,q2,dS j5,List.nil_append,List.cons_append,List.append_assoc,List.map_append,List.map_cons,List.map_nil,List.append_nil]);(first|done|rfl)),(by (simp only [hA,hN,q1,q2,dS j5,List.nil_append,List.cons_append,List.append_assoc,List.map_append,List.map_cons,List.map_nil,List.append_nil]);(first|done|rfl)),(by (simp only [hA,hN,q1,q2,dS j5,List.nil_append,List.cons_append,List.append_assoc,List.map_append,List.map_cons,List.map_nil,List.append_nil]);(first|done|rfl)),trivial⟩,by omega,(by show es.length-(x+1)<es.length-x;omega)⟩⟩)|(have q1:=TU (i:=x) (k:=0) (a:=a) (w:=(bK (tol*tol) (jA (tol*tol) es x).sp (es.getD x E0).layer a).2) (by assumption);have q2:=S9 (i:=x) (k:=1) (a:=b) (w:=(bK (tol*tol) (bK (tol*tol) (jA (tol*tol) es x).sp (es.getD x E0).layer a).1 (es.getD x E0).layer b).2) (by assumption);(conv=>whnf);exact ⟨x+1,⟨⟨rfl,rfl,rfl,bM (by omega),(by (simp only [hA,hN,q1,q2,dS j5,List.nil_append,List.cons_append,List.append_assoc,List.map_append,List.map_cons,List.map_nil,List.append_nil,List.length_append,List.length_map,List.length_cons,List.length_nil]);(first|done|rfl)),(by (simp only [hA,hN,q1,q2,dS j5,List.nil_append,List.cons_append,List.append_assoc,List.map_append,List.map_cons,List.map_nil,List.append_nil,List.length_append,List.length_map,List.length_cons,List.length_nil]);(first|done|rfl)),trivial⟩,⟨(by (simp only [hA,hN,q1,q2,dS j5,List.nil_append,List.cons_append,List.append_assoc,List.map_append,List.map_cons,List.map_nil,List.append_nil]);(first|done|rfl)),(by (simp only [hA,hN,q1,q2,dS j5,List.nil_append,List.cons_append,List.append_assoc,List.map_append,List.map_cons,List.map_nil,List.append_nil]);(first|done|rfl)),(by (simp only [hA,hN,q1,q2,dS j5,List.nil_append,List.cons_append,List.append_assoc,List.map_append,List.map_cons,List.map_nil,List.append_nil]);(first|done|rfl)),trivial⟩,by omega,(by show es.length-(x+1)<es.length-x;omega)⟩⟩)|(have q1:=S9 (i:=x) (k:=0) (a:=a) (w:=(bK (tol*tol) (jA (tol*tol) es x).sp (es.getD x E0).layer a).2) (by assumption);have q2:=TU (i:=x) (k:=1) (a:=b) (w:=(bK (tol*tol) (bK (tol*tol) (jA (tol*tol) es x).sp (es.getD x E0).layer a).1 (es.getD x E0).layer b).2) (by assumption);(conv=>whnf);exact ⟨x+1,⟨⟨rfl,rfl,rfl,bM (by omega),(by (simp only [hA,hN,q1,q2,dS j5,List.nil_append,List.cons_append,List.append_assoc,List.map_append,List.map_cons,List.map_nil,List.append_nil,List.length_append,List.length_map,List.length_cons,List.length_nil]);(first|done|rfl)),(by (simp only [hA,hN,q1,q2,dS j5,List.nil_append,List.cons_append,List.append_assoc,List.map_append,List.map_cons,List.map_nil,List.append_nil,List.length_append,List.length_map,List.length_cons,List.length_nil]);(first|done|rfl)),trivial⟩,⟨(by (simp only [hA,hN,q1,q2,dS j5,List.nil_append,List.cons_append,List.append_assoc,List.map_append,List.map_cons,List.map_nil,List.append_nil]);(first|done|rfl)),(by (simp only [hA,hN,q1,q2,dS j5,List.nil_append,List.cons_append,List.append_assoc,List.map_append,List.map_cons,List.map_nil,List.append_nil]);(first|done|rfl)),(by (simp only [hA,hN,q1,q2,dS j5,List.nil_append,List.cons_append,List.append_assoc,List.map_append,List.map_cons,List.map_nil,List.append_nil]);(first|done|rfl)),trivial⟩,by omega,(by show es.length-(x+1)<es.length-x;omega)⟩⟩)|(have q1:=S9 (i:=x) (k:=0) (a:=a) (w:=(bK (tol*tol) (jA (tol*tol) es x).sp (es.getD x E0).layer a).2) (by assumption);have q2:=S9 (i:=x) (k:=1) (a:=b) (w:=(bK (tol*tol) (bK (tol*tol) (jA (tol*tol) es x).sp (es.getD x E0).layer a).1 (es.getD x E0).layer b).2) (by assumption);(conv=>whnf);exact ⟨x+1,⟨⟨rfl,rfl,rfl,bM (by omega),(by (simp only [hA,hN,q1,q2,dS j5,List.nil_append,List.cons_append,List.append_assoc,List.map_append,List.map_cons,List.map_nil,List.append_nil,List.length_append,List.length_map,List.length_cons,List.length_nil]);(first|done|rfl)),(by (simp only [hA,hN,q1,q2,dS j5,List.nil_append,List.cons_append,List.append_assoc,List.map_append,List.map_cons,List.map_nil,List.append_nil,List.length_append,List.length_map,List.length_cons,List.length_nil]);(first|done|rfl)),trivial⟩,⟨(by (simp only [hA,hN,q1,q2,dS j5,List.nil_append,List.cons_append,List.append_assoc,List.map_append,List.map_cons,List.map_nil,List.append_nil]);(first|done|rfl)),(by (simp only [hA,hN,q1,q2,dS j5,List.nil_append,List.cons_append,List.append_assoc,List.map_append,List.map_cons,List.map_nil,List.append_nil]);(first|done|rfl)),(by (simp only [hA,hN,q1,q2,dS j5,List.nil_append,List.cons_append,List.append_assoc,List.map_append,List.map_cons,List.map_nil,List.append_nil]);(first|done|rfl)),trivial⟩,by omega,(by show es.length-(x+1)<es.length-x;omega)⟩⟩))
instance ab2(tol:Rat)(es:List Ent)(sL:Nat)(ls:List (List Cell)):DenI Tryz.prog 50 [.agg [.sl sL ls,.sl 7 (es.map dD)],R tol] (rz tol≤12∧es.length≤12∧∀e∈es,SH e) (.tup [.c (.sl 8 ((dB (tol*tol) 0 [] es).es.zipIdx.map jm)),.own 47 19 ((dB (tol*tol) 0 [] es).cs.map vJ)]):=⟨λ⟨h1,h2,h3⟩=>XA tol es sL ls h1 h2 h3⟩
def acn:List Cell:=[.v (.string ⟨#[]⟩),.v (.int .i64 0),.v (.string ⟨#[108,105,110,101]⟩),.v (.int .i64 2),.v (.string ⟨#[97,114,99]⟩),.v (.int .i64 3),.v (.string ⟨#[99,105,114,99,108,101]⟩),.v (.int .i64 1)]
def abh:List Value:=[.string ⟨#[]⟩,.int .i64 0,.string ⟨#[108,105,110,101]⟩,.int .i64 2,.string ⟨#[97,114,99]⟩,.int .i64 3,.string ⟨#[99,105,114,99,108,101]⟩,.int .i64 1]
def OV(w:World):Prop:=∀(j:Nat) u,abh[j]?=some u→w.cell? ((⟨0,0,none⟩:Addr).add j)=some u
theorem Oy{w w':World}(h:OV w)(hb:Below w.heap.size w w'):OV w':=λj u hu=>by
 have h1:=h j u hu;have hb0:((⟨0,0,none⟩:Addr).add j).block=0:=by unfold Addr.add;split<;>rfl
 have hg:((⟨0,0,none⟩:Addr).add j).block<w.heap.size:=by
  rcases Nat.lt_or_ge ((⟨0,0,none⟩:Addr).add j).block w.heap.size with h'|h'
  ·exact h'
  ·unfold World.cell? at h1;rw [Array.getElem?_eq_none h'] at h1;cases h1
 exact (hb.cell hg).trans h1
instance(priority:=3000) NI:Wld Tryz.prog:=⟨λw=>Lib.TabIs Tryz.prog w "internal/strconv.uint64pow10" .u64 Lib.pow10Tab∧OV w,λh hb=>⟨GR h.1 hb,Oy h.2 hb⟩,[(0,abh)],λh g us hm=>by
 simp only [List.mem_singleton,Prod.mk.injEq] at hm;obtain ⟨rfl,rfl⟩:=hm
 exact h.2⟩
instance ab1{f:FuncId}{xs:List AV}{pre:Prop}{r:AV}[h : @DenI Tryz.prog yD f xs pre r]:@DenI Tryz.prog NI f xs pre r:=⟨λhp=>ni yD NI (λ_ h=>h.1) (h.den hp)⟩
instance abT{f:FuncId}{xs:List AV}{pre c:Prop}{r s:AV}[h : @DenC Tryz.prog yD f xs pre c r s]:@DenC Tryz.prog NI f xs pre c r s:=⟨λhp=>⟨λhc=>ni yD NI (λ_ h=>h.1) ((h.den hp).1 hc),λhc=>ni yD NI (λ_ h=>h.1) ((h.den hp).2 hc)⟩⟩
def aan:Tab:=(1000000000,.glob 0 acn) :: tab
theorem ach : @dG Tryz.prog NI aan=true:=by kernel_rfl
theorem afh {f:FuncId} {fn:Func} {c:Code} {xs:List AV} {r:AV} (hf:Tryz.prog.funcs[f]?=some fn) (hb:fn.body=some c) (h:zB (Den Tryz.prog) aan c (TF aan fn r) (Et 0 xs) []) (a:dL Tryz.prog f=true:=by kernel_rfl) (t:gY fn.ntmps c=true:=by kernel_rfl) (l:Nat.ble xs.length fn.ntmps=true:=by kernel_rfl) (n:lJ xs=true:=by rfl):Den Tryz.prog f xs r:=qg ach eY hf hb a t l h n
instance aez(n:Nat):DenI Tryz.prog 254 [.int .i64 (n:Nat)] (n≤31) (Z (p10 n)):=⟨λhp=>by
 refine afh Tryz.func254 rfl ?_
 all_goals (repeat' ((try (conv=>whnf));first
  |refine ak ?_ ?_))
 all_goals (try refine Pr.mk ?_)
 all_goals first
  |((conv=>whnf);refine Sw.Loop.inv (α:=Nat) (λx=>[(2,.ptr 2 0),(3,.ptr 3 0),(4,.ptr 4 0),(7,.int .i64 (n:Nat)),(8,.int .i64 (x:Nat))]) (λx=>[(2,.var [.v (.bool false),.sl 1 []]),(3,.var [zs (p10 x),zl (p10 x)]),(4,.var [zs 10,zl 10])]) (λx=>x≤n∧True) (λx=>n-x) 0 ?_ ?_ ?_ (λx hx=>?_))
  |skip
 all_goals (repeat' ((try (conv=>whnf));first
  |refine ak ?_ ?_
  |(with_reducible refine au (λ_=>?_) (λ_=>?_))
  |refine Ends.mk ?_))
 all_goals (try refine Pr.mk ?_)
 all_goals first|(show SubE _ _;repeat' (first|exact trivial|refine And.intro ?_ ?_))|(show SubB _ _;repeat' (first|exact trivial|refine And.intro ?_ ?_))|skip
 all_goals (try rfl)
 all_goals first
  |omega
  |exact ⟨Nat.zero_le _,trivial⟩
  |exact ⟨Nat.le_trans (yx (by omega)) (by decide),Nat.le_trans (jf (n:=10) (by decide) (by decide)) (by decide)⟩
  |((with_reducible show aA _=_);have hxx:x=n:=(by omega);subst hxx;rfl)
  |((conv=>whnf);exact ⟨x+1,⟨⟨rfl,rfl,rfl,rfl,bM (by omega),trivial⟩,⟨rfl,(by show some (Bk.var [zs (p10 x*10),zl (p10 x*10)])=some (Bk.var [zs (p10 (x+1)),zl (p10 (x+1))]);rw [GU]),rfl,trivial⟩,⟨by omega,trivial⟩,by show n-(x+1)<n-x;omega⟩⟩)⟩
instance aeV(a:Rat)(n:Nat):DenI Tryz.prog 223 [R a,.int .i64 (n:Nat)] (rz a≤100∧n≤30) (R (tmR a n)):=⟨λhp=>by
 have z1:=NW (n:=n) (by omega);have z2:=yx (n:=n) (by omega)
 all_goals refine afh Tryz.func223 rfl ?_
 all_goals (repeat' ((try (conv=>whnf));first
  |refine ak ?_ ?_
  |refine fO ?_ (λ_=>?_) (λ_=>?_)
  |refine Ends.mk ?_))
 all_goals (try refine Pr.mk ?_)
 all_goals (try simp only [gu] at *)
 all_goals first
  |rfl
  |omega
  |exact ⟨Nat.le_trans z2 (by decide),Nat.le_trans (jf (n:=1) (by decide) (by decide)) (by decide)⟩
  |(refine ⟨by omega, ?_⟩;have:=QZ (n:=n) (by omega);omega)⟩
instance aev(s:ByteArray):DenI Tryz.prog 225 [.str s] (s.size≤1000) (.tup [.str s,.bool true]):=⟨λhp=>by
 refine afh Tryz.func225 rfl ?_
 all_goals (repeat' ((try (conv=>whnf));first
  |(with_reducible refine au (λ_=>?_) (λ_=>?_))
  |refine Ends.mk ?_))
 all_goals first
  |rfl
  |(exfalso;omega)⟩
theorem ZU{k:Nat}(hk:k≤40)(w:World):Calls Tryz.prog 256 #[.string ⟨#[48]⟩,.int .i64 k] w λe w'=>e=.returned (.string (NJ k))∧Below w.heap.size w w':=by
 refine (Any.strings_Repeat OH WJ ⟨#[48]⟩ k w (by omega) (by show 1*k≤_;omega)).mono ?_;rintro e w' ⟨rfl,hb⟩;refine ⟨?_,hb⟩
 have:Lib.repeatL [(48:UInt8)] k=List.replicate k 48:=by
  have:∀k:Nat,k≤40→Lib.repeatL [(48:UInt8)] k=List.replicate k 48:=by decide +kernel
  exact this k hk
 rw [show (ByteArray.mk #[48]).data.toList=[(48:UInt8)] from rfl,this];rfl
instance ad9(z:Int):DenI Tryz.prog 256 [.c (.v (.string ⟨#[48]⟩)),.c (.v (.int .i64 z))] (0≤z∧z≤40) (.c (.v (.string (NJ z.toNat)))):=⟨λhp=>by
 obtain ⟨n,rfl⟩:=Int.eq_ofNat_of_zero_le hp.1;refine Den.of ⟨by kernel_rfl,λw X vs hW hX hl hr=>?_⟩ rfl
 match vs,hl with
 |[u,v],_ =>
 have hu:u=.string ⟨#[48]⟩:=by
  have:=hr 0 u _ rfl rfl;cases this with
  |c h=>cases h;rfl
 have hv:v=.int .i64 (n:Nat):=by
  have:=hr 1 v _ rfl rfl;cases this with
  |c h=>cases h;rfl
 subst hu hv;refine Calls.mono (ZU (k:=n) (by omega) w) ?_;rintro e w' ⟨rfl,hb⟩
 exact ⟨_,rfl,(RepR.d (.c (.v _ rfl))).f,hb⟩⟩
instance aeL(n:Int)(k:Nat):DenI Tryz.prog 224 [Z n,.int .i64 (k:Nat)] (sz n≤50∧k≤30) (.str (Wn n k)):=⟨λhp=>by
 have z0:=IQ hp.1;have z1:=Nc n;have z2:=Qg hp.1 hp.2
 by_cases hn:n<0
 all_goals refine afh Tryz.func224 rfl ?_
 all_goals (repeat' ((try (conv=>whnf));first
  |refine aI ?_
  |refine ak ?_ ?_
  |(with_reducible refine au (λ_=>?_) (λ_=>?_))
  |refine bH ?_ ?_
  |refine Drw.mk (by kernel_rfl) ?_
  |refine iV ?_ ?_
  |refine Ends.mk ?_))
 all_goals (try refine Pr.mk ?_)
 all_goals (try simp only [gu] at *)
 all_goals (try (exfalso;omega))
 all_goals (try simp only [Option.getD_some,Option.getD_none,Int.toNat_natCast,aaF hn] at *)
 all_goals (try simp only [Option.getD_some,Option.getD_none,Int.toNat_natCast,abt hn] at *)
 all_goals (try simp (disch:=omega) only [bQ] at *)
 all_goals (try (have hle:(zx n).size≤k:=(by omega);have hB:=aat (n:=n) (k:=k) hle;simp only [hB] at *))
 all_goals (try (have hle:¬(zx n).size≤k:=(by omega);have hB:=Zy (n:=n) (k:=k) hle))
 all_goals (try simp (disch:=omega) only [bQ] at *)
 all_goals first
  |omega
  |(refine X3 ?_;rw [ZG (by omega)];unfold Ug;first|rw [if_pos hn]|rw [if_neg hn])
  |(refine ⟨by omega,by omega,by omega,by omega, ?_⟩;intro h;first|exact h|rfl|(cases h))
  |((with_reducible show (_:Nat)≤_);(try simp only [ByteArray.size_append,ByteArray.size_extract,Ak]);have e1:(ByteArray.mk #[45]).size=1:=rfl;have e2:(ByteArray.mk #[46]).size=1:=rfl;have e3:(ByteArray.mk #[]).size=0:=rfl;omega)
  |(refine X3 ?_;rw [WI (by omega),show ((↑(Ee n k).size:Int) - ↑k).toNat=(Ee n k).size-k by omega];unfold Ug;first|(rw [if_pos hn];rfl)|(rw [if_neg hn];rfl))
  |(refine X3 ?_;rw [WI (by omega),hB,show ((↑(zx n).size:Int) - ↑k).toNat=(zx n).size-k by omega];unfold Ug;first|(rw [if_pos hn];rfl)|(rw [if_neg hn];rfl))⟩
instance ae3(x:Nat)(a:Rat):DenI Tryz.prog 200 [Z (p10 x),Z (a.den:Int)] (x≤31∧rz a≤1000) (.tup [Z ((p10 x).fdiv (a.den:Int)),Z ((10 ^ x % a.den:Nat):Int),.int .i64 0]):=⟨λhp=>by
 have h:=(inferInstance:DenI Tryz.prog 200 [Z (p10 x),Z (a.den:Int)] _ _).den (by exact ⟨Nat.le_trans (yx hp.1) (by decide),Nat.le_trans (mF a) (by omega)⟩);rw [if_neg (aG a),if_neg (aG a),show (p10 x).fmod (a.den:Int)=((10 ^ x % a.den:Nat):Int) by unfold p10;rw [Int.fmod_eq_emod_of_nonneg _ (by omega)];omega] at h
 exact h⟩
instance ae6(a:Rat):DenI Tryz.prog 181 [R a] (rz a≤20) (.tup [.str (exS a),.bool (WY a).isSome]):=⟨λhp=>by
 refine afh Tryz.func181 rfl ?_
 all_goals (repeat' ((try (conv=>whnf));first
  |refine ak ?_ ?_))
 all_goals (try refine Pr.mk ?_)
 all_goals first
  |((conv=>whnf);refine Sw.Loop.inv (α:=Nat) (λx=>[(1,.ptr 1 0),(5,.ptr 5 0),(6,.int .i64 (x:Nat))]) (λx=>[(1,.var (zD a)),(5,.var [zs (p10 x),zl (p10 x)])]) (λx=>x≤31∧∀j<x,¬10 ^ j % a.den=0) (λx=>31-x) 0 ?_ ?_ ?_ (λx hx=>?_))
  |skip
 all_goals (repeat' ((try (conv=>whnf));first
  |refine aI ?_
  |refine ak ?_ ?_
  |(with_reducible refine au (λ_=>?_) (λ_=>?_))
  |refine Drw.mk (by kernel_rfl) ?_
  |refine Ends.mk ?_))
 all_goals (try refine Pr.mk ?_)
 all_goals first|(show SubE _ _;repeat' (first|exact trivial|refine And.intro ?_ ?_))|(show SubB _ _;repeat' (first|exact trivial|refine And.intro ?_ ?_))|skip
 all_goals (try rfl)
 all_goals (try simp only [gu] at *)
 all_goals first
  |omega
  |exact ⟨Nat.zero_le _,λj hj=>absurd hj (Nat.not_lt_zero _)⟩
  |exact ⟨Nat.le_trans (yx (by omega)) (by decide),Nat.le_trans (jf (n:=10) (by decide) (by decide)) (by decide)⟩
  |((conv=>whnf);exact ⟨x+1,⟨⟨rfl,rfl,bM (by omega),trivial⟩,⟨rfl,(by show some (Bk.var [zs (p10 x*10),zl (p10 x*10)])=some (Bk.var [zs (p10 (x+1)),zl (p10 (x+1))]);rw [GU]),trivial⟩,⟨by omega,iI hx.2 (by omega)⟩,by show 31-(x+1)<31-x;omega⟩⟩)
  |exact ⟨RS hp (by omega),by omega⟩
  |exact Za (RS hp (by omega)) (by omega)
  |(have e:=XD (a:=a) (x:=x) (by omega) hx.2 (by omega);simp only [exS,e];rfl)
  |(have e:=abb (a:=a) (λj hj=>hx.2 j (by omega));simp only [exS,e];rfl)⟩
instance aex(c:Nat):DenI Tryz.prog 175 [.c (.v (.int .u8 (c:Nat)))] (True) (.bool (Ze c)):=⟨λhp=>by
 refine afh Tryz.func175 rfl ?_
 all_goals (repeat' ((try (conv=>whnf));first
  |(with_reducible refine aO ?_)
  |(with_reducible refine aT ?_)
  |(with_reducible refine au (λ_=>?_) (λ_=>?_))
  |refine Ends.mk ?_))
 all_goals first
  |(refine bE ?_;rw [Bool.eq_iff_iff];simp only [Ze,Bool.or_eq_true,Bool.and_eq_true,decide_eq_true_eq,Bool.false_eq_true,iff_true,true_iff,iff_false,false_iff];omega)⟩
instance aeQ(c:Nat):DenI Tryz.prog 220 [.c (.v (.int .u8 (c:Nat)))] (True) (.bool (dgB c)):=⟨λhp=>by
 refine afh Tryz.func220 rfl ?_
 all_goals (repeat' ((try (conv=>whnf));first
  |(with_reducible refine aO ?_)
  |(with_reducible refine aT ?_)
  |(with_reducible refine au (λ_=>?_) (λ_=>?_))
  |refine Ends.mk ?_))
 all_goals first
  |(refine bE ?_;rw [Bool.eq_iff_iff];simp only [dgB,Bool.or_eq_true,Bool.and_eq_true,decide_eq_true_eq,Bool.false_eq_true,iff_true,true_iff,iff_false,false_iff];omega)⟩
instance aeJ(c:Nat):DenI Tryz.prog 177 [.c (.v (.int .u8 (c:Nat)))] (True) (.bool (Vg c)):=⟨λhp=>by
 refine afh Tryz.func177 rfl ?_
 all_goals (repeat' ((try (conv=>whnf));first
  |refine aI ?_
  |(with_reducible refine aO ?_)
  |(with_reducible refine aT ?_)
  |(with_reducible refine au (λ_=>?_) (λ_=>?_))
  |refine OnB.mk (λ_=>?_) (λ_=>?_)
  |refine Ends.mk ?_))
 all_goals first
  |(refine bE ?_;rw [Bool.eq_iff_iff];simp only [Vg,Bool.or_eq_true,Bool.and_eq_true,decide_eq_true_eq,Bool.false_eq_true,iff_true,true_iff,iff_false,false_iff];omega)
  |(refine bE ?_;unfold Vg;simp_all;done)
  |(refine bE ?_;unfold Vg;simp only [*,Bool.false_or];rw [Bool.eq_iff_iff];simp only [Bool.or_eq_true,decide_eq_true_eq];omega)⟩
instance aeM(s:ByteArray):DenI Tryz.prog 176 [.c (.v (.string s)),.int .i64 0,.c (.v (.func (.func 177) #[] #[]))] (s.size≤1000000) (.int .i64 (rnN s:Nat)):=⟨λhp=>by
 refine afh Tryz.func176 rfl ?_
 all_goals first
  |((conv=>whnf);refine Sw.Loop.inv (α:=Nat) (λx=>[(0,.c (.v (.string s))),(1,.int .i64 (x:Nat)),(2,.c (.v (.func (.func 177) #[] #[])))]) (λx=>[]) (λx=>x≤s.size∧∀j<x,Vg ((vF s).getD j 0)=true) (λx=>s.size-x) 0 ?_ ?_ ?_ (λx hx=>?_))
 all_goals (repeat' ((try (conv=>whnf));first
  |refine aI ?_
  |(with_reducible refine aO ?_)
  |(with_reducible refine aT ?_)
  |(with_reducible refine au (λ_=>?_) (λ_=>?_))
  |refine OnB.mk (λ_=>?_) (λ_=>?_)
  |(with_reducible refine Lh ?_ ?_)
  |refine Ends.mk ?_))
 all_goals (try refine Pr.mk ?_)
 all_goals (try simp only [Option.getD_some,Option.getD_none,Int.toNat_natCast,Int.toNat_zero] at *)
 all_goals first
  |omega
  |trivial
  |exact ⟨Nat.zero_le _,λj hj=>absurd hj (Nat.not_lt_zero _)⟩
  |((conv=>whnf);exact ⟨x+1,⟨⟨rfl,bM (by omega),rfl,trivial⟩,trivial,⟨by omega,iI hx.2 (by assumption)⟩,(by show s.size-(x+1)<s.size-x;omega)⟩⟩)
  |(refine iE ?_;rw [XJ hx.1 hx.2 (λh=>by first|assumption|omega)];done)⟩
instance aeo(s:ByteArray):DenI Tryz.prog 132 [.c (.v (.string s))] (s.size≤1000000) (.bool (Ns s)):=⟨λhp=>by
 refine afh Tryz.func132 rfl ?_
 all_goals (repeat' ((try (conv=>whnf));first
  |refine aI ?_
  |refine ak ?_ ?_
  |(with_reducible refine aO ?_)
  |(with_reducible refine aT ?_)
  |(with_reducible refine au (λ_=>?_) (λ_=>?_))
  |refine OnB.mk (λ_=>?_) (λ_=>?_)
  |(with_reducible refine Lh ?_ ?_)
  |refine Ends.mk ?_))
 all_goals (try refine Pr.mk ?_)
 all_goals (try simp only [Option.getD_some,Option.getD_none,Int.toNat_natCast,Int.toNat_zero] at *)
 all_goals first
  |omega
  |(have z:=QK (by assumption);omega)
  |(refine bE ?_;have z:=QK (by assumption);rw [XP z (by omega) (by assumption)];exact decide_eq_decide.2 (by omega))
  |(refine bE ?_;rw [Yf (by first|exact .inl (Ul (by assumption))|exact .inr (.inl (by omega))|exact .inr (.inr (by assumption)))];done)⟩
instance aec(l:LayD):DenI Tryz.prog 100 [.agg (iP l)] (l.name.size≤1000000) (.bool (P6 l)):=⟨λhp=>by
 refine afh Tryz.func100 rfl ?_
 all_goals (repeat' ((try (conv=>whnf));first
  |refine ak ?_ ?_
  |(with_reducible refine aO ?_)
  |(with_reducible refine aT ?_)
  |(with_reducible refine au (λ_=>?_) (λ_=>?_))
  |refine OnB.mk (λ_=>?_) (λ_=>?_)
  |refine Ends.mk ?_))
 all_goals (try refine Pr.mk ?_)
 all_goals first
  |omega
  |(refine bE ?_;unfold P6;rw [Bool.eq_iff_iff];simp_all;done)
  |(refine bE ?_;unfold P6;rw [Bool.eq_iff_iff];simp_all;omega)⟩
instance aeu(l:LayD)(s:ByteArray):DenI Tryz.prog 134 [.agg (iP l),.c (.p [.v (.string s)])] (True) (.bool (eqS l.name s)):=⟨λhp=>by
 refine afh Tryz.func134 rfl ?_
 all_goals (repeat' ((try (conv=>whnf));first
  |refine Ends.mk ?_))
 all_goals first
  |rfl⟩
instance afd(ls:List LayD)(s:ByteArray):DenI Tryz.prog 133 [.c (.sl 3 (ls.map iP)),.c (.fn 134 [.p [.v (.string s)]])] (ls.length≤1000) (.int .i64 (wR ls s)):=⟨λhp=>by
 refine afh Tryz.func133 rfl ?_
 all_goals first
  |((conv=>whnf);refine Sw.Loop.inv (α:=Nat) (λk=>[(0,.c (.sl 3 (ls.map iP))),(1,.c (.fn 134 [.p [.v (.string s)]])),(6,.c (.sl 3 (ls.map iP))),(7,.int .i64 (ls.length:Nat)),(8,.int .i64 (k:Nat))]) (λk=>[]) (λk=>k≤ls.length∧∀j<k,eqS (ls.getD j L0).name s=false) (λk=>ls.length-k) 0 ?_ ?_ ?_ (λk hk=>?_))
 all_goals (repeat' ((try (conv=>whnf));first
  |refine aI ?_
  |(with_reducible refine au (λ_=>?_) (λ_=>?_))
  |refine OnB.mk (λ_=>?_) (λ_=>?_)
  |refine aP L0 ?_ ?_
  |refine Ends.mk ?_))
 all_goals (try refine Pr.mk ?_)
 all_goals (try simp only [List.length_map,Int.toNat_natCast] at *)
 all_goals first
  |omega
  |trivial
  |exact ⟨Nat.zero_le _,λj hj=>absurd hj (Nat.not_lt_zero _)⟩
  |((conv=>whnf);exact ⟨k+1,⟨⟨rfl,rfl,rfl,rfl,bM (by omega),trivial⟩,trivial,⟨by omega,iI hk.2 (by assumption)⟩,(by show ls.length-(k+1)<ls.length-k;omega)⟩⟩)
  |((with_reducible show aA _=_);rw [BM (x:=k) (by omega) hk.2 (by assumption)];rfl)
  |((with_reducible show aA _=_);have hxx:k=ls.length:=(by omega);subst hxx;rw [YE hk.2];rfl)⟩
instance aeT(ls:List LayD)(s:ByteArray):DenI Tryz.prog 101 [.c (.sl 3 (ls.map iP)),.c (.v (.string s))] (ls.length≤1000) (.int .i64 (wR ls s)):=⟨λhp=>by
 refine afh Tryz.func101 rfl ?_
 all_goals (repeat' ((try (conv=>whnf));first
  |refine ak ?_ ?_
  |refine Ends.mk ?_))
 all_goals (try refine Pr.mk ?_)
 all_goals first
  |omega
  |rfl⟩
end Go.Proofs.YtmniihkenijjpaaGreatDoor
