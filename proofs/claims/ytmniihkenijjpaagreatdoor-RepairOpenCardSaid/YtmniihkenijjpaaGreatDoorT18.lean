/-
  Rules of the abstract run, plain laws, and what functions answer, for the law RepairOpen.
  Conditions: none.
-/
import Derived.Test.YtmniihkenijjpaaGreatDoorT17
import Derived.Shelf.LaysM
import Derived.Shelf.Strconv.Itoa1
import Derived.Shelf.Strconv.Itoa2
import Derived.Lib.Walk
import Derived.Lib.ItoaMem
import Derived.Lib.ItoaLen
import Derived.Lib.AppendIntMem
import Derived.WalkKit
import Derived.BigCall
import Derived.BigGuard
import Derived.Shelf.SlicesE.Clone
set_option linter.all false
namespace Go.Proofs.YtmniihkenijjpaaGreatDoor
open Go Go.RowKit Go.Sw Go.Shelf
set_option maxRecDepth 100000
set_option maxHeartbeats 8000000
set_option synthInstance.maxSize 4000
set_option synthInstance.maxHeartbeats 400000
instance aei(l1 l2:ByteArray)(a b c d:P2)(r1:Rq)(r2:Rq):DenI Tryz.prog 99 [.agg [.v (.int .i64 1),.v (.string l1),.sl 8 [vecC a,vecC b],.v (.bool r1.a),lmc r1.l,.v (.bool r1.b),lmc r1.m],.agg [.v (.int .i64 1),.v (.string l2),.sl 8 [vecC c,vecC d],.v (.bool r2.a),lmc r2.l,.v (.bool r2.b),lmc r2.m]] (aV a∧aV b∧aV c∧aV d) (.bool (dB ⟨1,l1,[a,b],r1⟩ ⟨1,l2,[c,d],r2⟩)):=⟨λhp=>by
 obtain⟨g1,g2,g3,g4⟩:=hp
 all_goals refine acs Tryz.func99 rfl ?_
 all_goals(repeat'((try(conv=>whnf));first
  |refine call_0 ?_|refine call_i ?_ ?_|(with_reducible first|refine onB_t ?_|refine onB_f ?_|refine onB_d (λ_=>?_) (λ_=>?_)|refine onB_n (λ_=>?_) (λ_=>?_))|refine OnB.mk (λ_=>?_) (λ_=>?_)|refine Drw.mk (by kernel_rfl) ?_|(with_reducible first|refine elem_0 ?_|refine elem_1 ?_)|refine Ends.mk ?_))
 all_goals(try refine Pr.mk ?_)
 all_goals(try simp only[am3]at *)
 all_goals first
  |(exfalso;rename ¬True=>h;exact h trivial)|exact⟨g1,g2,g3,g4⟩|exact bE (YH (by assumption))|exact bE (af7 (by assumption))⟩
instance afg(l1 l2:ByteArray)(a b c n d:P2)(r1:Rq)(r2:Rq):DenI Tryz.prog 99 [.agg [.v (.int .i64 1),.v (.string l1),.sl 8 [vecC a,vecC b],.v (.bool r1.a),lmc r1.l,.v (.bool r1.b),lmc r1.m],.agg [.v (.int .i64 2),.v (.string l2),.sl 8 [vecC c,vecC n,vecC d],.v (.bool r2.a),lmc r2.l,.v (.bool r2.b),lmc r2.m]] (aV a∧aV b∧aV c∧aV n∧aV d) (.bool (dB ⟨1,l1,[a,b],r1⟩ ⟨2,l2,[c,n,d],r2⟩)):=⟨λhp=>by
 obtain⟨g1,g2,g3,g4,g5⟩:=hp
 all_goals refine acs Tryz.func99 rfl ?_
 all_goals(repeat'((try(conv=>whnf));first
  |refine call_i ?_ ?_|(with_reducible first|refine onB_t ?_|refine onB_f ?_|refine onB_d (λ_=>?_) (λ_=>?_)|refine onB_n (λ_=>?_) (λ_=>?_))|refine OnB.mk (λ_=>?_) (λ_=>?_)|refine Drw.mk (by kernel_rfl) ?_|(with_reducible refine elem_0 ?_)|refine Ends.mk ?_))
 all_goals(try refine Pr.mk ?_)
 all_goals(try simp only[am3]at *)
 all_goals first
  |(exfalso;rename ¬True=>h;exact h trivial)|(exfalso;omega)|(refine bE ?_;rw[ku (by show¬((1:Int)=2);decide)];done)⟩
instance adw(l1 l2:ByteArray)(a b c:P2)(r1:Rq)(q2:Rat):DenI Tryz.prog 99 [.agg [.v (.int .i64 1),.v (.string l1),.sl 8 [vecC a,vecC b],.v (.bool r1.a),lmc r1.l,.v (.bool r1.b),lmc r1.m],.agg [.v (.int .i64 3),.v (.string l2),.sl 8 [vecC c],zs q2.num,zl q2.num,zs q2.den,zl q2.den]] (aV a∧aV b∧aV c∧rz q2≤12) (.bool (dB ⟨1,l1,[a,b],r1⟩ ⟨3,l2,[c],qI q2⟩)):=⟨λhp=>by
 obtain⟨g1,g2,g3,g4⟩:=hp
 all_goals refine acs Tryz.func99 rfl ?_
 all_goals(repeat'((try(conv=>whnf));first
  |refine call_i ?_ ?_|(with_reducible first|refine onB_t ?_|refine onB_f ?_|refine onB_d (λ_=>?_) (λ_=>?_)|refine onB_n (λ_=>?_) (λ_=>?_))|refine OnB.mk (λ_=>?_) (λ_=>?_)|refine Drw.mk (by kernel_rfl) ?_|(with_reducible refine elem_0 ?_)|refine Ends.mk ?_))
 all_goals(try refine Pr.mk ?_)
 all_goals(try simp only[am3]at *)
 all_goals first
  |(exfalso;rename ¬True=>h;exact h trivial)|(exfalso;omega)|(refine bE ?_;rw[ku (by show¬((1:Int)=3);decide)];done)⟩
instance aeR(l1 l2:ByteArray)(a m b c d:P2)(r1:Rq)(r2:Rq):DenI Tryz.prog 99 [.agg [.v (.int .i64 2),.v (.string l1),.sl 8 [vecC a,vecC m,vecC b],.v (.bool r1.a),lmc r1.l,.v (.bool r1.b),lmc r1.m],.agg [.v (.int .i64 1),.v (.string l2),.sl 8 [vecC c,vecC d],.v (.bool r2.a),lmc r2.l,.v (.bool r2.b),lmc r2.m]] (aV a∧aV m∧aV b∧aV c∧aV d) (.bool (dB ⟨2,l1,[a,m,b],r1⟩ ⟨1,l2,[c,d],r2⟩)):=⟨λhp=>by
 obtain⟨g1,g2,g3,g4,g5⟩:=hp
 all_goals refine acs Tryz.func99 rfl ?_
 all_goals(repeat'((try(conv=>whnf));first
  |refine call_i ?_ ?_|(with_reducible first|refine onB_t ?_|refine onB_f ?_|refine onB_d (λ_=>?_) (λ_=>?_)|refine onB_n (λ_=>?_) (λ_=>?_))|refine OnB.mk (λ_=>?_) (λ_=>?_)|refine Drw.mk (by kernel_rfl) ?_|(with_reducible refine elem_0 ?_)|refine Ends.mk ?_))
 all_goals(try refine Pr.mk ?_)
 all_goals(try simp only[am3]at *)
 all_goals first
  |(exfalso;omega)|(refine bE ?_;rw[ku (by show¬((2:Int)=1);decide)];done)⟩
instance adp(l1 l2:ByteArray)(a m b c n d:P2)(r1:Rq)(r2:Rq):DenI Tryz.prog 99 [.agg [.v (.int .i64 2),.v (.string l1),.sl 8 [vecC a,vecC m,vecC b],.v (.bool r1.a),lmc r1.l,.v (.bool r1.b),lmc r1.m],.agg [.v (.int .i64 2),.v (.string l2),.sl 8 [vecC c,vecC n,vecC d],.v (.bool r2.a),lmc r2.l,.v (.bool r2.b),lmc r2.m]] (aV a∧aV m∧aV b∧aV c∧aV n∧aV d) (.bool (dB ⟨2,l1,[a,m,b],r1⟩ ⟨2,l2,[c,n,d],r2⟩)):=⟨λhp=>by
 obtain⟨g1,g2,g3,g4,g5,g6⟩:=hp
 all_goals refine acs Tryz.func99 rfl ?_
 all_goals(repeat'((try(conv=>whnf));first
  |refine call_0 ?_|refine call_i ?_ ?_|(with_reducible first|refine onB_t ?_|refine onB_f ?_|refine onB_d (λ_=>?_) (λ_=>?_)|refine onB_n (λ_=>?_) (λ_=>?_))|refine OnB.mk (λ_=>?_) (λ_=>?_)|refine Drw.mk (by kernel_rfl) ?_|(with_reducible first|refine elem_0 ?_|refine elem_1 ?_)|refine Ends.mk ?_))
 all_goals(try refine Pr.mk ?_)
 all_goals(try simp only[am3]at *)
 all_goals first
  |(exfalso;rename ¬True=>h;exact h trivial)|(exfalso;omega)|exact⟨g1,g3,g4,g6⟩|exact⟨g1,g2,g3,g4,g5,g6⟩|exact⟨g1,g2,g3,g5⟩|exact⟨g4,g5,g6,g2⟩|exact bE (YH (by assumption))|(refine bE ?_;rw[←ahx (by assumption)];simp_all;done)⟩
instance adq(l1 l2:ByteArray)(a m b c:P2)(r1:Rq)(q2:Rat):DenI Tryz.prog 99 [.agg [.v (.int .i64 2),.v (.string l1),.sl 8 [vecC a,vecC m,vecC b],.v (.bool r1.a),lmc r1.l,.v (.bool r1.b),lmc r1.m],.agg [.v (.int .i64 3),.v (.string l2),.sl 8 [vecC c],zs q2.num,zl q2.num,zs q2.den,zl q2.den]] (aV a∧aV m∧aV b∧aV c∧rz q2≤12) (.bool (dB ⟨2,l1,[a,m,b],r1⟩ ⟨3,l2,[c],qI q2⟩)):=⟨λhp=>by
 obtain⟨g1,g2,g3,g4,g5⟩:=hp
 all_goals refine acs Tryz.func99 rfl ?_
 all_goals(repeat'((try(conv=>whnf));first
  |refine call_i ?_ ?_|(with_reducible first|refine onB_t ?_|refine onB_f ?_|refine onB_d (λ_=>?_) (λ_=>?_)|refine onB_n (λ_=>?_) (λ_=>?_))|refine OnB.mk (λ_=>?_) (λ_=>?_)|refine Drw.mk (by kernel_rfl) ?_|(with_reducible refine elem_0 ?_)|refine Ends.mk ?_))
 all_goals(try refine Pr.mk ?_)
 all_goals(try simp only[am3]at *)
 all_goals first
  |(exfalso;omega)|(refine bE ?_;rw[ku (by show¬((2:Int)=3);decide)];done)⟩
instance adM(l1 l2:ByteArray)(a c d:P2)(q1:Rat)(r2:Rq):DenI Tryz.prog 99 [.agg [.v (.int .i64 3),.v (.string l1),.sl 8 [vecC a],zs q1.num,zl q1.num,zs q1.den,zl q1.den],.agg [.v (.int .i64 1),.v (.string l2),.sl 8 [vecC c,vecC d],.v (.bool r2.a),lmc r2.l,.v (.bool r2.b),lmc r2.m]] (aV a∧aV c∧aV d∧rz q1≤12) (.bool (dB ⟨3,l1,[a],qI q1⟩ ⟨1,l2,[c,d],r2⟩)):=⟨λhp=>by
 obtain⟨g1,g2,g3,g4⟩:=hp
 all_goals refine acs Tryz.func99 rfl ?_
 all_goals(repeat'((try(conv=>whnf));first
  |refine call_i ?_ ?_|(with_reducible first|refine onB_t ?_|refine onB_f ?_|refine onB_d (λ_=>?_) (λ_=>?_)|refine onB_n (λ_=>?_) (λ_=>?_))|refine OnB.mk (λ_=>?_) (λ_=>?_)|refine Drw.mk (by kernel_rfl) ?_|(with_reducible refine elem_0 ?_)|refine Ends.mk ?_))
 all_goals(try refine Pr.mk ?_)
 all_goals(try simp only[am3]at *)
 all_goals first
  |(exfalso;rename ¬True=>h;exact h trivial)|(exfalso;omega)|(refine bE ?_;rw[ku (by show¬((3:Int)=1);decide)];done)⟩
instance adg(l1 l2:ByteArray)(a c n d:P2)(q1:Rat)(r2:Rq):DenI Tryz.prog 99 [.agg [.v (.int .i64 3),.v (.string l1),.sl 8 [vecC a],zs q1.num,zl q1.num,zs q1.den,zl q1.den],.agg [.v (.int .i64 2),.v (.string l2),.sl 8 [vecC c,vecC n,vecC d],.v (.bool r2.a),lmc r2.l,.v (.bool r2.b),lmc r2.m]] (aV a∧aV c∧aV n∧aV d∧rz q1≤12) (.bool (dB ⟨3,l1,[a],qI q1⟩ ⟨2,l2,[c,n,d],r2⟩)):=⟨λhp=>by
 obtain⟨g1,g2,g3,g4,g5⟩:=hp
 all_goals refine acs Tryz.func99 rfl ?_
 all_goals(repeat'((try(conv=>whnf));first
  |refine call_i ?_ ?_|(with_reducible first|refine onB_t ?_|refine onB_f ?_|refine onB_d (λ_=>?_) (λ_=>?_)|refine onB_n (λ_=>?_) (λ_=>?_))|refine OnB.mk (λ_=>?_) (λ_=>?_)|refine Drw.mk (by kernel_rfl) ?_|(with_reducible refine elem_0 ?_)|refine Ends.mk ?_))
 all_goals(try refine Pr.mk ?_)
 all_goals(try simp only[am3]at *)
 all_goals first
  |(exfalso;rename ¬True=>h;exact h trivial)|(exfalso;omega)|(refine bE ?_;rw[ku (by show¬((3:Int)=2);decide)];done)⟩
instance ae1(l1 l2:ByteArray)(a c:P2)(q1:Rat)(q2:Rat):DenI Tryz.prog 99 [.agg [.v (.int .i64 3),.v (.string l1),.sl 8 [vecC a],zs q1.num,zl q1.num,zs q1.den,zl q1.den],.agg [.v (.int .i64 3),.v (.string l2),.sl 8 [vecC c],zs q2.num,zl q2.num,zs q2.den,zl q2.den]] (aV a∧aV c∧rz q1≤12∧rz q2≤12) (.bool (dB ⟨3,l1,[a],qI q1⟩ ⟨3,l2,[c],qI q2⟩)):=⟨λhp=>by
 obtain⟨g1,g2,g3,g4⟩:=hp
 all_goals refine acs Tryz.func99 rfl ?_
 all_goals(repeat'((try(conv=>whnf));first
  |refine call_i ?_ ?_|(with_reducible first|refine onB_t ?_|refine onB_f ?_|refine onB_d (λ_=>?_) (λ_=>?_)|refine onB_n (λ_=>?_) (λ_=>?_))|refine OnB.mk (λ_=>?_) (λ_=>?_)|refine Drw.mk (by kernel_rfl) ?_|(with_reducible refine elem_0 ?_)|refine Ends.mk ?_))
 all_goals(try refine Pr.mk ?_)
 all_goals(try simp only[am3]at *)
 all_goals first
  |(exfalso;rename ¬True=>h;exact h trivial)|(exfalso;omega)|exact⟨dh g1.1 (by decide),dh g1.2 (by decide),dh g2.1 (by decide),dh g2.2 (by decide)⟩|exact bE (YH (by assumption))|exact⟨dh g3 (by decide),dh g4 (by decide)⟩|(refine bE ?_;rw[←ahw (by assumption)];simp_all;done)⟩
instance(priority:=2000) ail(e f:Ent):DenI Tryz.prog 99 [.agg (cO e),.agg (cO f)] (okV e∧okV f) (.bool (dB e f)):=⟨λ⟨h1,h2⟩=>by
 rcases qF h1 with⟨l1,a,b,r1,rfl,g1,g3,_⟩|⟨l1,a,m,b,r1,rfl,g1,g2,g3,_⟩|⟨l1,a,q1,rfl,g1,_,g7,_⟩<;>rcases qF h2 with⟨l2,c,d,r2,rfl,g4,g6,_⟩|⟨l2,c,n,d,r2,rfl,g4,g5,g6,_⟩|⟨l2,c,q2,rfl,g4,_,g8,_⟩
 ·exact(aei l1 l2 a b c d r1 r2).den ⟨g1,g3,g4,g6⟩
 ·exact(afg l1 l2 a b c n d r1 r2).den ⟨g1,g3,g4,g5,g6⟩
 ·exact(adw l1 l2 a b c r1 q2).den ⟨g1,g3,g4,g8⟩
 ·exact(aeR l1 l2 a m b c d r1 r2).den ⟨g1,g2,g3,g4,g6⟩
 ·exact(adp l1 l2 a m b c n d r1 r2).den ⟨g1,g2,g3,g4,g5,g6⟩
 ·exact(adq l1 l2 a m b c r1 q2).den ⟨g1,g2,g3,g4,g8⟩
 ·exact(adM l1 l2 a c d q1 r2).den ⟨g1,g4,g6,g7⟩
 ·exact(adg l1 l2 a c n d q1 r2).den ⟨g1,g4,g5,g6,g7⟩
 ·exact(ae1 l1 l2 a c q1 q2).den ⟨g1,g4,g7,g8⟩⟩
set_option maxHeartbeats 16000000 in
instance ahX(l:List Ent):DenI Tryz.prog 59 [.c (.sl 7 (l.map cO))] (l.length≤1000∧∀e∈l,okV e) (.c (.sl 1 ((aY l).map bC))):=⟨λ⟨h1,h4⟩=>by
 refine acs Tryz.func59 rfl ?_
 (conv=>whnf)
 refine Sw.Loop.ghost 3 100 4 1 ?_ rfl rfl rfl (by decide);refine Sw.Loop.inv (α:=Nat) (λx=>[(0,.c (.sl 7 (l.map cO))),(3,.gs 100 ((aY (l.take x)).map bC).length),(4,.int .i64 (x:Nat))]) (λx=>[(100,.grow 4 1 ((aY (l.take x)).map bC))]) (λx=>x≤l.length) (λx=>l.length-x) 0 ?_ ?_ ?_ (λx hx=>?_)
 ·exact⟨rfl,rfl,rfl,trivial⟩
 ·exact⟨rfl,trivial⟩
 ·exact oW _
 all_goals(repeat'((try(conv=>whnf));first
  |(with_reducible refine onB_d (λ_=>?_) (λ_=>?_))|refine obl_i ?_ ?_|refine Ends.mk ?_))
 all_goals(try refine Pr.mk ?_)
 all_goals(try simp only[bK,fU]at *)
 all_goals first
  |((conv=>whnf);refine Sw.Loop.inv (α:=Nat) (λy=>[(0,.c (.sl 7 (l.map cO))),(3,.gs 100 ((aY (l.take x)).map bC).length),(4,.int .i64 (x:Nat)),(5,.bool ((l.take y).any λf=>dB f (l.getD x E0))),(6,.int .i64 (y:Nat))]) (λy=>[(100,.grow 4 1 ((aY (l.take x)).map bC))]) (λy=>y≤x) (λy=>x-y) 0 ?_ ?_ ?_ (λy hy=>?_))|skip
 all_goals(repeat'((try(conv=>whnf));first
  |refine call_i ?_ ?_|(with_reducible first|refine onB_t ?_|refine onB_f ?_|refine onB_d (λ_=>?_) (λ_=>?_))|refine OnB.mk (λ_=>?_) (λ_=>?_)|refine obl_i ?_ ?_|refine Drw.mk (by kernel_rfl) ?_|refine elem_map E0 ?_ ?_))
 all_goals(try refine Pr.mk ?_)
 all_goals(try simp only[bK,fU]at *)
 all_goals(try(have hrl:(aY (l.take x)).length≤x:=by rw[fM,vY];omega))
 all_goals first
  |omega|((with_reducible show(_:Nat)≤_);simp only[gY,bK,iH,jf];omega)|exact⟨rfl,rfl,rfl,rfl,rfl,trivial⟩|exact⟨rfl,trivial⟩|exact⟨yU h4 (by omega),yU h4 (by omega)⟩|((with_reducible show packA _=_);have hxx:x=l.length:=(by omega);subst hxx;rw[ER];rfl)|((conv=>whnf);exact⟨y+1,⟨⟨rfl,rfl,rfl,(by show some (AV.bool _)=some (AV.bool _);rw[anS (by omega)];simp_all;done),aW (by omega),trivial⟩,⟨rfl,trivial⟩,by omega,(by show x-(y+1)<x-y;omega)⟩⟩)|(have hy2:y=x:=(by omega);subst hy2;have hm:=rpS (l:=l) (x:=y) (by omega);(conv=>whnf);exact⟨y+1,⟨⟨rfl,(by(simp only[hm,fO,gB,iD,gy,gY,bK,iH,jf]);(first|done|rfl)),aW (by omega),trivial⟩,⟨(by(simp only[hm,fO,gB,iD,gy]);(first|done|rfl)),trivial⟩,by omega,(by show l.length-(y+1)<l.length-y;omega)⟩⟩)⟩
set_option maxHeartbeats 16000000 in
instance ahW(l:List Ent):DenI Tryz.prog 60 [.c (.sl 7 (l.map cO))] (l.length≤1000∧∀e∈l,okV e) (.c (.sl 2 ((bZ l).map LU))):=⟨λ⟨h1,h4⟩=>by
 refine acs Tryz.func60 rfl ?_
 (conv=>whnf)
 refine Sw.Loop.ghost 3 100 68 2 ?_ rfl rfl rfl (by decide);refine Sw.Loop.inv (α:=Nat) (λx=>[(0,.c (.sl 7 (l.map cO))),(3,.gs 100 ((Bq l x 0).map LU).length),(4,.int .i64 (x:Nat))]) (λx=>[(100,.grow 68 2 ((Bq l x 0).map LU))]) (λx=>x≤l.length) (λx=>l.length-x) 0 ?_ ?_ ?_ (λx hx=>?_)
 ·exact⟨rfl,rfl,rfl,trivial⟩
 ·exact⟨rfl,trivial⟩
 ·exact oW _
 all_goals(repeat'((try(conv=>whnf));first
  |refine call_i ?_ ?_|(with_reducible refine onB_d (λ_=>?_) (λ_=>?_))|refine obl_i ?_ ?_|refine elem_map E0 ?_ ?_|refine Ends.mk ?_))
 all_goals(try refine Pr.mk ?_)
 all_goals(try simp only[bK,fU]at *)
 all_goals first
  |((conv=>whnf);refine Sw.Loop.inv (α:=Nat) (λn=>[(0,.c (.sl 7 (l.map cO))),(3,.gs 100 ((Bq l x n).map LU).length),(4,.int .i64 (x:Nat)),(5,.c (.sl 8 ((aS (l.getD x E0)).map vecC))),(7,.int .i64 (n:Nat))]) (λn=>[(100,.grow 68 2 ((Bq l x n).map LU))]) (λn=>n≤(aS (l.getD x E0)).length) (λn=>(aS (l.getD x E0)).length-n) 0 ?_ ?_ ?_ (λn hn=>?_))|skip
 all_goals(repeat'((try(conv=>whnf));first
  |(with_reducible refine onB_d (λ_=>?_) (λ_=>?_))))
 all_goals(try simp only[bK,fU]at *)
 all_goals first
  |((conv=>whnf);refine Sw.Loop.inv (α:=Nat) (λk=>[(0,.c (.sl 7 (l.map cO))),(3,.gs 100 ((Bq l x n).map LU).length),(4,.int .i64 (x:Nat)),(5,.c (.sl 8 ((aS (l.getD x E0)).map vecC))),(7,.int .i64 (n:Nat)),(8,.bool (Uh l x n ((aS (l.getD x E0)).getD n P0) k 0)),(9,.int .i64 (k:Nat))]) (λk=>[(100,.grow 68 2 ((Bq l x n).map LU))]) (λk=>k≤l.length) (λk=>l.length-k) 0 ?_ ?_ ?_ (λk hk=>?_))|skip
 all_goals(repeat'((try(conv=>whnf));first
  |refine call_i ?_ ?_|(with_reducible refine onB_d (λ_=>?_) (λ_=>?_))|refine OnB.mk (λ_=>?_) (λ_=>?_)|refine obl_i ?_ ?_|refine elem_map E0 ?_ ?_))
 all_goals(try refine Pr.mk ?_)
 all_goals(try simp only[bK,fU]at *)
 all_goals first
  |((conv=>whnf);refine Sw.Loop.inv (α:=Nat) (λm=>[(0,.c (.sl 7 (l.map cO))),(3,.gs 100 ((Bq l x n).map LU).length),(4,.int .i64 (x:Nat)),(5,.c (.sl 8 ((aS (l.getD x E0)).map vecC))),(7,.int .i64 (n:Nat)),(8,.bool (Uh l x n ((aS (l.getD x E0)).getD n P0) k m)),(9,.int .i64 (k:Nat)),(10,.c (.sl 8 ((aS (l.getD k E0)).map vecC))),(12,.int .i64 (m:Nat))]) (λm=>[(100,.grow 68 2 ((Bq l x n).map LU))]) (λm=>m≤(aS (l.getD k E0)).length) (λm=>(aS (l.getD k E0)).length-m) 0 ?_ ?_ ?_ (λm hm=>?_))|skip
 all_goals(repeat'((try(conv=>whnf));first
  |refine call_i ?_ ?_|(with_reducible first|refine onB_t ?_|refine onB_f ?_|refine onB_d (λ_=>?_) (λ_=>?_)|refine onB_n (λ_=>?_) (λ_=>?_))|refine OnB.mk (λ_=>?_) (λ_=>?_)|refine Drw.mk (by kernel_rfl) ?_|refine elem_map E0 ?_ ?_|refine elem_map P0 ?_ ?_))
 all_goals(try refine Pr.mk ?_)
 all_goals(try simp only[bK,fU]at *)
 all_goals(try(have hl0:=Bz (l:=l) x (n:=0)))
 all_goals(try(have hl1:=Bz (l:=l) x (n:=n);have hl2:=CP (l.getD x E0)))
 all_goals(try(have hl3:=CP (l.getD k E0)))
 all_goals first
  |omega|((with_reducible show(_:Nat)≤_);simp only[gY,bK,iH,jf];omega)|exact⟨rfl,rfl,rfl,rfl,rfl,trivial⟩|exact⟨rfl,rfl,rfl,rfl,rfl,rfl,rfl,trivial⟩|exact⟨rfl,rfl,rfl,rfl,rfl,rfl,rfl,rfl,rfl,trivial⟩|exact⟨rfl,trivial⟩|exact dh (yU h4 (x:=x) (by omega)).2.2.2 (by decide)|exact dh (yU h4 (x:=k) (by omega)).2.2.2 (by decide)|((with_reducible show _∧_);have e1:=(yU h4 (x:=x) (by omega)).2.1 _ (iR (JE (l:=(aS (l.getD x E0))) (x:=n) (by omega)));have e2:=(yU h4 (x:=k) (by omega)).2.1 _ (iR (JE (l:=(aS (l.getD k E0))) (x:=m) (by omega)));exact⟨dh e1.1 (by decide),dh e1.2 (by decide),dh e2.1 (by decide),dh e2.2 (by decide)⟩)|((with_reducible show packA _=_);have hxx:x=l.length:=(by omega);subst hxx;rfl)|((conv=>whnf);exact⟨m+1,⟨⟨rfl,rfl,rfl,rfl,rfl,(by show some (AV.bool _)=some (AV.bool _);rw[aha];unfold Vx eqS;(try simp only[Int.natCast_inj]at *);simp_all;done),rfl,rfl,aW (by omega),trivial⟩,⟨rfl,trivial⟩,by omega,(by show(aS (l.getD k E0)).length-(m+1)<(aS (l.getD k E0)).length-m;omega)⟩⟩)|(have hkk:=afA (l:=l) (i:=x) (n:=n) (k:=k) (m:=m) (v:=((aS (l.getD x E0)).getD n P0)) (by omega);(conv=>whnf);exact⟨k+1,⟨⟨rfl,rfl,rfl,rfl,rfl,(by show some (AV.bool _)=some (AV.bool _);rw[hkk]),aW (by omega),trivial⟩,⟨rfl,trivial⟩,by omega,(by show l.length-(k+1)<l.length-k;omega)⟩⟩)|(have hkl:k=l.length:=(by omega);subst hkl;have hm:=agN (l:=l) (x:=x) (n:=n) (by assumption);(conv=>whnf);exact⟨n+1,⟨⟨rfl,(by(simp only[hm,fO,gB,iD,gy,gY,bK,iH,jf]);(first|done|rfl)),rfl,rfl,aW (by omega),trivial⟩,⟨(by(simp only[hm,fO,gB,iD,gy]);(first|done|rfl)),trivial⟩,by omega,(by show(aS (l.getD x E0)).length-(n+1)<(aS (l.getD x E0)).length-n;omega)⟩⟩)|(have hkl:k=l.length:=(by omega);subst hkl;have hm:=ahk (l:=l) (x:=x) (n:=n) (by assumption);(conv=>whnf);exact⟨n+1,⟨⟨rfl,(by(simp only[hm]);(first|done|rfl)),rfl,rfl,aW (by omega),trivial⟩,⟨(by(simp only[hm]);(first|done|rfl)),trivial⟩,by omega,(by show(aS (l.getD x E0)).length-(n+1)<(aS (l.getD x E0)).length-n;omega)⟩⟩)|(have hm:=ach (l:=l) (x:=x) (n:=n) (by omega);(conv=>whnf);exact⟨x+1,⟨⟨rfl,(by(simp only[hm]);(first|done|rfl)),aW (by omega),trivial⟩,⟨(by(simp only[hm]);(first|done|rfl)),trivial⟩,by omega,(by show l.length-(x+1)<l.length-x;omega)⟩⟩)⟩
def NQ:Tab:=(25,.row 2 [(0,1,false),(1,1,false)] [.v (.slice none 0 0),.v (.slice none 0 0)]) ::(2000000000,.flag)::ahH
theorem vk:tabOk Tryz.prog NQ=true:=by kernel_rfl
def adQ:Go.Shelf.Ren:=⟨λn=>if n=41 then 53 else n,λn=>if n=22 then 22 else if n=23 then 89 else n,id⟩
theorem ae6:Go.Proofs.SlLaysE0.n41 Tryz.prog adQ where
 mixed:=eF
 f41:=⟨ "slices.Clone[[]swarf/api.LayerDef,swarf/api.LayerDef]",by decide,Ai Tryz.func53 (congrArg some (Eq.refl _))⟩
 t4:=Tryz.underlying4
 a4:=Tryz.isAgg4
 z4:=Tryz.sizeOf4
 v4:=Tryz.zeroValue4
 t22:=Tryz.underlying22
 a22:=Tryz.isAgg22
 z22:=Tryz.sizeOf22
 v22:=Tryz.zeroValue22
theorem abq:∃i0,Tryz.prog.info? 89=some i0∧i0.zero=some (.agg #[.string ByteArray.empty,.int .i64 0,.int .i64 0])∧i0.size=3∧i0.bytes=32:=info_parts (by kernel_rfl)
instance alh(es:List (List Cell)):DenI Tryz.prog 53 [.c (.sl 3 es)] (es.length≤1000000) (.c (.sl 3 es)):=⟨λhp=>by
 obtain⟨i0,h1,h2,h3,h4⟩:=abq
 exact Uo ae6 (by kernel_rfl) i0 _ h1 h2 h3 (by omega) rfl (by decide) Tryz.sizeOf89 hp⟩
theorem BJ(es:List Ent):(es.map gQ).map dP=es.map cO:=by
 rw[List.map_map];exact List.map_congr_left λe _=>YC e
instance(priority:=2000) Oc(ls:List LayD)(es:List Ent):DenI Tryz.prog 20 [.agg [(.sl 3 (ls.map dI)),.sl 7 (es.map cO)]] (ls.length≤1000∧es.length≤1000∧(∀l∈ls,l.name.size≤1000)∧∀e∈es,pJ (gQ e)) (.int .i64 (kG ls (es.map gQ))):=⟨λ⟨h1,h2,h3,h4⟩=>by
 have h:=(agX ls (es.map gQ)).den ⟨h1,by rw[bK];exact h2,h3,λe he=>by obtain⟨x,hx,rfl⟩:=iM.1 he;exact h4 x hx⟩;rw[BJ]at h
 exact h⟩
set_option maxHeartbeats 16000000 in
theorem ab8(ls:List LayD)(es:List Ent)(tol:Rat)(h1:ls.length≤1000)(h2:(∀l∈ls,l.name.size≤1000))(h3:es.length≤12)(h4:∀e∈es,okV e)(h5:∀e∈es,pJ (gQ e))(h6n:rz tol≤12)(h7:¬tol<0)(h8:kG ls (es.map gQ)=0):
 Den Tryz.prog 13 [.agg [(.sl 3 (ls.map dI)),.sl 7 (es.map cO)],R tol] (.tup [.agg [(.sl 3 (ls.map dI)),.sl 7 ((dJ (tol*tol) es).es.map cO)],.c (.sl 19 ((dJ (tol*tol) es).cs.map yN)),.int .i64 0]):=by
 haveI i_v:DenI Tryz.prog 20 [.agg [(.sl 3 (ls.map dI)),.sl 7 (es.map cO)]] (ls.length≤1000∧es.length≤1000∧(∀l∈ls,l.name.size≤1000)∧∀e∈es,pJ (gQ e)) (.int .i64 0):=⟨λhp=>by have:=(Oc ls es).den hp;rwa [h8]at this⟩
 have hz1:(dU (tol*tol) 0 [] es).es.zipIdx.length≤12:=by have:=OT tol es;unfold jZ at this;omega
 have hz2:∀x∈(dU (tol*tol) 0 [] es).es.zipIdx,okV x.1:=acN (tol:=tol) h4;have hk1:=dh (OY tol es) h3;have hk2:=acU (tol:=tol) h4;have hl1:=dh (Zi tol es) h3;have hl2:=afB (tol:=tol) h4;have hr:=Qh (tol:=tol) h4;have hr1:(dU (tol*tol) 0 [] es).cs.length≤24:=by have:=(hr 0).1;omega
 have hr2:(tu (dU (tol*tol) 0 [] es).es.zipIdx).length≤12:=by have:=(hr 0).2.1;unfold jZ at this;omega
 have hr3:=xJ (jL tol es) (jL tol es).length (kU _);rw[Ho]at hr3;refine Den.of ⟨by kernel_rfl,λw X vs ho hX hl hR=>?_⟩ rfl
 haveI:WOk Tryz.prog w:=⟨ho⟩
 refine enter Tryz.func13 rfl rfl (by rw[hl];rfl) λa hF=>?_
 have hc:=args_conc (N:=90) hX hl hR hF;refine cut_ok (τ:=NQ) vk eF 9 _ (QA:=λz e b=>z=.normal∧SubE [(4,.ptr 4 0),(9,.gs 2000030 ((Jv tol es (jK tol es).length).map yN).length),(11,.gs 100 ((jL tol es).map jV).length),(14,.ptr 14 0)] e∧SubB [(4,.var [.v (.slice none 0 0),.v (.slice none 0 0)]),(14,.var [(.sl 3 (ls.map dI)),.v (.slice none 0 0)]),(2000030,.grow 47 19 ((Jv tol es (jK tol es).length).map yN)),(100,.grow 86 8 ((jL tol es).map jV))] b) (by kernel_rfl) ?_ hc (λe b a w hq hc2=>?_) (λx e b a w hx hq hc=>absurd hq.1 hx)
 case refine_1 =>
  clear hc hF hR hl hX
  all_goals(repeat'((try(conv=>whnf));first
   |refine call_0 ?_|refine call_i ?_ ?_|(with_reducible first|refine onB_d (λ_=>?_) (λ_=>?_)|refine onB_n (λ_=>?_) (λ_=>?_))|refine obl_i ?_ ?_))
  all_goals(try refine Pr.mk ?_)
  all_goals(try simp only[bK,fU]at *)
  all_goals first
   |((conv=>whnf);refine Sw.Loop.ghost 11 100 86 8 ?_ rfl rfl rfl (by decide);refine Sw.Loop.inv (α:=Nat) (λx=>[(2,.ptr 2 0),(4,.ptr 4 0),(8,.c (.sl 8 ((jK tol es).map jV))),(42,.c (.sl 1 ((aY ((jK tol es).map (·.1))).map bC))),(43,.int .i64 ((jK tol es).length:Nat)),(44,.int .i64 (x:Nat)),(9,.gs 2000030 ((Jv tol es x).map yN).length),(11,.gs 100 ((Np (jK tol es) x).map jV).length)]) (λx=>[(2,.var [(.sl 3 (ls.map dI)),.sl 7 (es.map cO)]),(4,.var [.v (.slice none 0 0),.v (.slice none 0 0)]),(2000030,.grow 47 19 ((Jv tol es x).map yN)),(100,.grow 86 8 ((Np (jK tol es) x).map jV))]) (λx=>x≤(jK tol es).length) (λx=>(jK tol es).length-x) 0 ?_ ?_ ?_ (λx hx=>?_))|skip
  all_goals(repeat'((try(conv=>whnf));first
   |refine call_i ?_ ?_|(with_reducible refine onB_d (λ_=>?_) (λ_=>?_))|refine OnB.mk (λ_=>?_) (λ_=>?_)|refine obl_i ?_ ?_|refine elem_map N0 ?_ ?_|refine elem_map false ?_ ?_))
  all_goals(try refine Pr.mk ?_)
  all_goals(try simp only[bK,fU]at *)
  all_goals(try simp only[am3]at *)
  all_goals first
   |(exfalso;rename ¬True=>h;exact h trivial)|(exfalso;rename tol<0=>hx;exact h7 hx)|((with_reducible show(_:Nat)=_);rfl)|omega|exact⟨h6n,h3,λe he=>(h4 e he).2⟩|exact⟨h1,by omega,h2,h5⟩|exact⟨hz1,hz2⟩|exact⟨hk1,hk2⟩|((with_reducible show(_:Nat)≤_);have hrx:=(hr x).2.2;have hlx:=(Hw (jK tol es) x).1;simp only[gY,bK,iH,jf];omega)|((with_reducible show(_:Nat)≤_);simp only[gY,bK,iH,jf];omega)|((with_reducible show SubE _ _);exact⟨rfl,rfl,rfl,rfl,(by show some (AV.int .i64 _)=some (AV.int .i64 _);rw[show(aY (List.map (λx=>x.fst) (wo (dU (tol*tol) 0 [] es).es.zipIdx))).length=(jK tol es).length from by rw[fM,bK];rfl]),rfl,(by show some (AV.gs _ _)=some (AV.gs _ _);simp only[acA,gY,bK,iH,jf];rfl),rfl,trivial⟩)|(have hkr:(aY (List.map (λx=>x.fst) (jK tol es))).length=(jK tol es).length:=(by rw[fM,bK]);omega)|((with_reducible show SubB _ _);exact⟨rfl,rfl,(by show some _=some _;simp only[acA,fO,gB,iD,gy];rfl),rfl,trivial⟩)|(obtain⟨h9,h10⟩:=agl (tol:=tol) (es:=es) (x:=x) (by omega) (by assumption);(conv=>whnf);exact⟨x+1,⟨⟨rfl,rfl,rfl,rfl,rfl,aW (by omega),(by(simp only[h9,h10,fO,gB,iD,gy,gY,bK,iH,jf]);(first|done|rfl)),(by(simp only[h9,h10,fO,gB,iD,gy,gY,bK,iH,jf]);(first|done|rfl)),trivial⟩,⟨rfl,rfl,(by(simp only[h9,h10,fO,gB,iD,gy]);(first|done|rfl)),(by(simp only[h9,h10,fO,gB,iD,gy]);(first|done|rfl)),trivial⟩,by omega,(by show(jK tol es).length-(x+1)<(jK tol es).length-x;omega)⟩⟩)|(obtain⟨h9,h10⟩:=afW (tol:=tol) (es:=es) (x:=x) (by omega) (by assumption);(conv=>whnf);exact⟨x+1,⟨⟨rfl,rfl,rfl,rfl,rfl,aW (by omega),(by(simp only[h9,h10,fO,gB,iD,gy,gY,bK,iH,jf]);(first|done|rfl)),(by(simp only[h9,h10,fO,gB,iD,gy,gY,bK,iH,jf]);(first|done|rfl)),trivial⟩,⟨rfl,rfl,(by(simp only[h9,h10,fO,gB,iD,gy]);(first|done|rfl)),(by(simp only[h9,h10,fO,gB,iD,gy]);(first|done|rfl)),trivial⟩,by omega,(by show(jK tol es).length-(x+1)<(jK tol es).length-x;omega)⟩⟩)|(have hxx:x=(jK tol es).length:=(by omega);subst hxx;(conv=>whnf);refine⟨rfl,⟨rfl,rfl,(by(try rw[Jm]);rfl),rfl,trivial⟩,⟨rfl,rfl,rfl,(by(try rw[Jm]);rfl),trivial⟩⟩)
 clear hc;obtain⟨_,he,hb⟩:=hq;have hc:=hc2.sub he hb;clear he hb hc2 hF hR hl hX;replace hc:=hc.ghostF (i:=200) (j:=14) (T:=55) (s:=7) (k:=1) rfl rfl rfl rfl (by decide) rfl;refine awp_ok (τ:=NQ) vk eF _ (QA:=endO NQ _ [none,none,none] (.tup [.agg [(.sl 3 (ls.map dI)),.sl 7 ((dJ (tol*tol) es).es.map cO)],.c (.sl 19 ((dJ (tol*tol) es).cs.map yN)),.int .i64 0])) (by kernel_rfl) ?_ hc (λx e b a w' hx hc'=>endO_ok vk hx hc');clear hc ho
 all_goals(repeat'((try(conv=>whnf));first
  |refine obl_i ?_ ?_))
 all_goals(try refine Pr.mk ?_)
 all_goals(try simp only[bK,fU]at *)
 all_goals first
  |((conv=>whnf);refine Sw.Loop.inv (α:=Nat) (λx=>[(4,.ptr 4 0),(9,.gs 2000030 ((Jv tol es (jK tol es).length).map yN).length),(11,.gs 100 ((jL tol es).map jV).length),(14,.ptr 14 0),(71,.gs 100 ((jL tol es).map jV).length),(72,.int .i64 ((jL tol es).length:Nat)),(73,.int .i64 (x:Nat))]) (λx=>[(200,.grow 55 7 ((((jL tol es).take x).map (·.1)).map cO)),(14,.varo [(.sl 3 (ls.map dI)),.ob 200 ((((jL tol es).take x).map (·.1)).map cO).length]),(4,.var [.v (.slice none 0 0),.v (.slice none 0 0)]),(2000030,.grow 47 19 ((Jv tol es (jK tol es).length).map yN)),(100,.grow 86 8 ((jL tol es).map jV))]) (λx=>x≤(jL tol es).length) (λx=>(jL tol es).length-x) 0 ?_ ?_ ?_ (λx hx=>?_))
 all_goals(repeat'((try(conv=>whnf));first
  |refine call_i ?_ ?_|(with_reducible refine onB_d (λ_=>?_) (λ_=>?_))|refine obl_i ?_ ?_|refine Drw.mk (by kernel_rfl) ?_|refine elem_map N0 ?_ ?_|refine Ends.mk ?_))
 all_goals(try refine Pr.mk ?_)
 all_goals(try simp only[bK,fU]at *)
 all_goals first
  |((with_reducible show(_:Nat)=_);rfl)|omega|exact⟨hl1,λx hx=>(hl2 x hx).2⟩|((with_reducible show(_:Nat)≤_);have hrx:=(hr (jK tol es).length).2.2;simp only[gY,bK,iH,jf,vY];omega)|((with_reducible show SubE _ _);exact⟨rfl,rfl,rfl,rfl,rfl,rfl,rfl,trivial⟩)|((with_reducible show SubB _ _);exact⟨rfl,rfl,rfl,rfl,rfl,trivial⟩)|((with_reducible show packA _=_);have hxx:x=(jL tol es).length:=(by omega);subst hxx;rw[ER,(Oy tol es).1,(Oy tol es).2,fO];rfl)|(have hm:=TA (l:=(jL tol es)) (x:=x) (by omega);have hn:(List.take (x+1) (jL tol es)).length=(List.take x (jL tol es)).length+(0+1):=(by simp only[vY];omega);(conv=>whnf);exact⟨x+1,⟨⟨rfl,rfl,rfl,rfl,rfl,rfl,aW (by omega),trivial⟩,⟨(by(simp only[hm,fO,gB,iD,gy]);(first|done|rfl)),(by(simp only[hm,hn,fO,gB,iD,gy,gY,bK,iH,jf]);(first|done|rfl)),rfl,rfl,rfl,trivial⟩,by omega,(by show(jL tol es).length-(x+1)<(jL tol es).length-x;omega)⟩⟩)
instance Vm(ls:List LayD)(es:List Ent)(tol:Rat):DenI Tryz.prog 13 [.agg [(.sl 3 (ls.map dI)),.sl 7 (es.map cO)],R tol] (ls.length≤1000∧(∀l∈ls,l.name.size≤1000)∧es.length≤12∧(∀e∈es,okV e)∧(∀e∈es,pJ (gQ e))∧rz tol≤12∧¬tol<0∧kG ls (es.map gQ)=0) (.tup [.agg [(.sl 3 (ls.map dI)),.sl 7 ((dJ (tol*tol) es).es.map cO)],.c (.sl 19 ((dJ (tol*tol) es).cs.map yN)),.int .i64 0]):=⟨λ⟨h1,h2,h3,h4,h5,h6,h7,h8⟩=>ab8 ls es tol h1 h2 h3 h4 h5 h6 h7 h8⟩
instance ak9(kd en fi:Int)(b1 b2 b3 b4 b5 b6 b7 b8:Bool)(l1 l2 l3 l4 l5 l6 l7 l8:List (List Cell)):DenI Tryz.prog 62 [.agg [.v (.int .i64 kd),.v (.int .i64 en),.v (.int .i64 fi),.v (.bool b1),.sl 1 l1,.v (.bool b2),.sl 1 l2,.v (.bool b3),.sl 1 l3,.v (.bool b4),.sl 1 l4,.v (.bool b5),.sl 1 l5,.v (.bool b6),.sl 1 l6,.v (.bool b7),.sl 1 l7,.v (.bool b8),.sl 1 l8]] (True) (.bool (!decide (kd=4))):=⟨λhp=>by
 refine acs Tryz.func62 rfl ?_
 all_goals(repeat'((try(conv=>whnf));first
  |refine Ends.mk ?_))
 all_goals first
  |rfl⟩
instance alK(cs:List Chn):DenI Tryz.prog 82 [.c (.sl 19 (cs.map yN)),.c (.v (.func (.func 62) #[] #[]))] (cs.length≤1000) (.int .i64 (dG cs)):=⟨λhp=>by
 refine acs Tryz.func82 rfl ?_
 all_goals first
  |((conv=>whnf);refine Sw.Loop.inv (α:=Nat) (λk=>[(0,.c (.sl 19 (cs.map yN))),(1,.c (.v (.func (.func 62) #[] #[]))),(6,.c (.sl 19 (cs.map yN))),(7,.int .i64 (cs.length:Nat)),(8,.int .i64 (k:Nat))]) (λk=>[]) (λk=>k≤cs.length∧∀j<k,(cs.getD j C0).kind=4) (λk=>cs.length-k) 0 ?_ ?_ ?_ (λk hk=>?_))
 all_goals(repeat'((try(conv=>whnf));first
  |(with_reducible refine onB_d (λ_=>?_) (λ_=>?_))|refine elem_map C0 ?_ ?_|refine Ends.mk ?_))
 all_goals(try refine Pr.mk ?_)
 all_goals(try simp only[bK,fU]at *)
 all_goals(try(with_reducible show putK _ _ _ _;generalize hcc:cs.getD k C0=c;(try rw[hcc]);obtain⟨kd,en,fi,sr,ds⟩:=c;cases sr<;>cases ds))
 all_goals(repeat'((try(conv=>whnf));first
  |refine call_0 ?_|(with_reducible refine onB_n (λ_=>?_) (λ_=>?_))|refine Ends.mk ?_))
 all_goals(try simp only[bK,fU]at *)
 all_goals first
  |omega|trivial|exact⟨oW _,λj hj=>absurd hj (Jr _)⟩|((conv=>whnf);exact⟨k+1,⟨⟨rfl,rfl,rfl,rfl,aW (by omega),trivial⟩,trivial,⟨by omega,dR hk.2 (by rw[hcc];dsimp only;omega)⟩,(by show cs.length-(k+1)<cs.length-k;omega)⟩⟩)|((with_reducible show packA _=_);rw[adI (x:=k) (by omega) hk.2 (by rw[hcc];dsimp only;omega)];rfl)|((with_reducible show packA _=_);have hxx:k=cs.length:=(by omega);subst hxx;rw[agS hk.2];rfl)⟩
instance alL(cs:List Chn):DenI Tryz.prog 43 [.c (.sl 19 (cs.map yN)),.c (.v (.func (.func 62) #[] #[]))] (cs.length≤1000) (.bool (!V8 cs)):=⟨λhp=>by
 refine acs Tryz.func43 rfl ?_
 all_goals(repeat'((try(conv=>whnf));first
  |refine call_i ?_ ?_|refine Ends.mk ?_))
 all_goals(try refine Pr.mk ?_)
 all_goals first
  |omega|exact bE (ahA cs)⟩
instance ag8(ls:List LayD)(es:List Ent)(tol:Rat):DenI Tryz.prog 19 [.agg [(.sl 3 (ls.map dI)),.sl 7 (es.map cO)],R tol] (ls.length≤1000∧(∀l∈ls,l.name.size≤1000)∧es.length≤12∧(∀e∈es,okV e)∧(∀e∈es,pJ (gQ e))∧rz tol≤12∧¬tol<0∧kG ls (es.map gQ)=0) (.bool (V8 (dJ (tol*tol) es).cs)):=⟨λhp=>by
 have hlen:(dJ (tol*tol) es).cs.length≤1000:=aai hp.2.2.1 hp.2.2.2.1
 all_goals refine acs Tryz.func19 rfl ?_
 all_goals(repeat'((try(conv=>whnf));first
  |refine call_i ?_ ?_|(with_reducible first|refine onB_t ?_|refine onB_f ?_|refine onB_d (λ_=>?_) (λ_=>?_))|refine Ends.mk ?_))
 all_goals(try refine Pr.mk ?_)
 all_goals first
  |exact hp|exact hlen|(refine bE ?_;rw[Bool.not_not])|(exfalso;rename ¬0=0=>h;exact h rfl)⟩
instance(priority:=50) ak4(ls:List LayD)(es:List EntR):DenI Tryz.prog 35 [.agg [(.sl 3 (ls.map dI)),.sl 7 (es.map dP)]] (ls.length≤1000∧es.length≤1000∧(∀l∈ls,l.name.size≤1000)∧(∀e∈es,pJ e)∧kG ls es≠0) (.c (.sl 0 [])):=⟨λhp=>by
 obtain⟨h1,h2,h3,h4,h5⟩:=hp
 all_goals refine acs Tryz.func35 rfl ?_
 all_goals(repeat'((try(conv=>whnf));first
  |refine call_i ?_ ?_|(with_reducible refine onB_n (λ_=>?_) (λ_=>?_))|refine Ends.mk ?_))
 all_goals(try refine Pr.mk ?_)
 all_goals(try simp only[bK,fU]at *)
 all_goals first
  |exact⟨h1,h2,h3,h4⟩|rfl|(exfalso;exact h5 (by assumption))⟩
instance(priority:=50) aiF(ls:List LayD)(es:List EntR):DenI Tryz.prog 36 [.agg [(.sl 3 (ls.map dI)),.sl 7 (es.map dP)]] (ls.length≤1000∧es.length≤1000∧(∀l∈ls,l.name.size≤1000)∧(∀e∈es,pJ e)∧kG ls es≠0) (.c (.sl 0 [])):=⟨λhp=>by
 obtain⟨h1,h2,h3,h4,h5⟩:=hp
 all_goals refine acs Tryz.func36 rfl ?_
 all_goals(repeat'((try(conv=>whnf));first
  |refine call_i ?_ ?_|(with_reducible refine onB_n (λ_=>?_) (λ_=>?_))|refine Ends.mk ?_))
 all_goals(try refine Pr.mk ?_)
 all_goals(try simp only[bK,fU]at *)
 all_goals first
  |exact⟨h1,h2,h3,h4⟩|rfl|(exfalso;exact h5 (by assumption))⟩
instance(priority:=50) akZ(ls:List LayD)(es:List EntR):DenI Tryz.prog 38 [.agg [(.sl 3 (ls.map dI)),.sl 7 (es.map dP)]] (ls.length≤1000∧es.length≤1000∧(∀l∈ls,l.name.size≤1000)∧(∀e∈es,pJ e)∧kG ls es≠0) (.c (.sl 0 [])):=⟨λhp=>by
 obtain⟨h1,h2,h3,h4,h5⟩:=hp
 all_goals refine acs Tryz.func38 rfl ?_
 all_goals(repeat'((try(conv=>whnf));first
  |refine call_i ?_ ?_|(with_reducible refine onB_n (λ_=>?_) (λ_=>?_))|refine Ends.mk ?_))
 all_goals(try refine Pr.mk ?_)
 all_goals(try simp only[bK,fU]at *)
 all_goals first
  |exact⟨h1,h2,h3,h4⟩|rfl|(exfalso;exact h5 (by assumption))⟩
instance(priority:=50) aji(ls:List LayD)(es:List EntR):DenI Tryz.prog 39 [.agg [(.sl 3 (ls.map dI)),.sl 7 (es.map dP)]] (ls.length≤1000∧es.length≤1000∧(∀l∈ls,l.name.size≤1000)∧(∀e∈es,pJ e)∧kG ls es≠0) (.c (.sl 0 [])):=⟨λhp=>by
 obtain⟨h1,h2,h3,h4,h5⟩:=hp
 all_goals refine acs Tryz.func39 rfl ?_
 all_goals(repeat'((try(conv=>whnf));first
  |refine call_i ?_ ?_|(with_reducible refine onB_n (λ_=>?_) (λ_=>?_))|refine Ends.mk ?_))
 all_goals(try refine Pr.mk ?_)
 all_goals(try simp only[bK,fU]at *)
 all_goals first
  |exact⟨h1,h2,h3,h4⟩|rfl|(exfalso;exact h5 (by assumption))⟩
set_option maxHeartbeats 16000000 in
instance ami(ls:List LayD)(es:List Ent):DenI Tryz.prog 35 [.agg [(.sl 3 (ls.map dI)),.sl 7 (es.map cO)]] (ls.length≤1000∧(∀l∈ls,l.name.size≤1000)∧es.length≤12∧(∀e∈es,okV e)∧(∀e∈es,pJ (gQ e))∧kG ls (es.map gQ)=0) (.c (.sl 2 ((bZ es).map LU))):=⟨λ⟨h1,h2,h3,h4,h5,h8⟩=>by
 haveI i_v:DenI Tryz.prog 20 [.agg [(.sl 3 (ls.map dI)),.sl 7 (es.map cO)]] (ls.length≤1000∧es.length≤1000∧(∀l∈ls,l.name.size≤1000)∧∀e∈es,pJ (gQ e)) (.int .i64 0):=⟨λhp=>by have:=(Oc ls es).den hp;rwa [h8]at this⟩
 have hz1:=Cc h4;have hz2:=Bv h4;have hzl:es.zipIdx.length=es.length:=by rw[SL]
 have hol:=uN es;have hrl:(aY es).length=es.length:=fM es;refine acs Tryz.func35 rfl ?_
 (conv=>whnf)
 all_goals(repeat'((try(conv=>whnf));first
  |refine call_i ?_ ?_|(with_reducible refine onB_n (λ_=>?_) (λ_=>?_))|refine Ends.mk ?_))
 all_goals(try refine Pr.mk ?_)
 all_goals(try simp only[bK,fU]at *)
 all_goals first
  |((conv=>whnf);refine Sw.Loop.ghost 3 100 68 2 ?_ rfl rfl rfl (by decide);refine Sw.Loop.inv (α:=Nat) (λx=>[(3,.gs 100 ((Jl (jU es.zipIdx) x).map LU).length),(11,.c (.sl 19 ((jU es.zipIdx).map yN))),(12,.int .i64 ((jU es.zipIdx).length:Nat)),(13,.int .i64 (x:Nat))]) (λx=>[(100,.grow 68 2 ((Jl (jU es.zipIdx) x).map LU))]) (λx=>x≤(jU es.zipIdx).length) (λx=>(jU es.zipIdx).length-x) 0 ?_ ?_ ?_ (λx hx=>?_))|skip
 all_goals(repeat'((try(conv=>whnf));first
  |(with_reducible refine onB_d (λ_=>?_) (λ_=>?_))|refine obl_i ?_ ?_|refine elem_map C0 ?_ ?_|refine Ends.mk ?_))
 all_goals(try refine Pr.mk ?_)
 all_goals(try simp only[bK,fU]at *)
 all_goals(try(with_reducible show putK _ _ _ _;generalize hcc:(jU es.zipIdx).getD x C0=c;obtain⟨kd,en,fi,sr,ds⟩:=c;cases sr<;>cases ds))
 all_goals(repeat'((try(conv=>whnf));first
  |refine obl_i ?_ ?_))
 all_goals(try refine Pr.mk ?_)
 all_goals(try simp only[bK,fU]at *)
 all_goals(try(have hox:=Yd (jU es.zipIdx) x))
 all_goals first
  |omega|((with_reducible show(_:Nat)≤_);simp only[gY,bK,iH,jf];omega)|exact⟨h1,by omega,h2,h5⟩|exact⟨by omega,hz1⟩|(exfalso;rename ¬True=>h;exact h trivial)|exact⟨rfl,rfl,(by first|rfl|(show some _=some _;simp only[bK];rfl)),rfl,trivial⟩|exact⟨rfl,trivial⟩|((with_reducible show packA _=_);have hxx:x=(jU es.zipIdx).length:=(by omega);subst hxx;rw[VP];rfl)|(have hm:=aec (cs:=(jU es.zipIdx)) (x:=x) (by omega);rw[hcc]at hm;(conv=>whnf);exact⟨x+1,⟨⟨(by(simp only[hm,fO,gB,iD,gy,gY,bK,iH,jf]);(first|done|rfl)),rfl,rfl,aW (by omega),trivial⟩,⟨(by(simp only[hm,fO,gB,iD,gy]);(first|done|rfl)),trivial⟩,by omega,(by show(jU es.zipIdx).length-(x+1)<(jU es.zipIdx).length-x;omega)⟩⟩)⟩
set_option maxHeartbeats 16000000 in
instance akV(ls:List LayD)(es:List Ent):DenI Tryz.prog 36 [.agg [(.sl 3 (ls.map dI)),.sl 7 (es.map cO)]] (ls.length≤1000∧(∀l∈ls,l.name.size≤1000)∧es.length≤12∧(∀e∈es,okV e)∧(∀e∈es,pJ (gQ e))∧kG ls (es.map gQ)=0) (.c (.sl 2 ((bZ es).map LU))):=⟨λ⟨h1,h2,h3,h4,h5,h8⟩=>by
 haveI i_v:DenI Tryz.prog 22 [.agg [(.sl 3 (ls.map dI)),.sl 7 (es.map cO)]] (ls.length≤1000∧es.length≤1000∧(∀l∈ls,l.name.size≤1000)∧∀e∈es,pJ (gQ e)) (.int .i64 0):=⟨λhp=>by have:=(Qp ls es).den hp;rwa [h8]at this⟩
 have hz1:=Cc h4;have hz2:=Bv h4;have hzl:es.zipIdx.length=es.length:=by rw[SL]
 have hol:=uN es;have hrl:(aY es).length=es.length:=fM es;refine acs Tryz.func36 rfl ?_
 (conv=>whnf)
 all_goals(repeat'((try(conv=>whnf));first
  |refine call_i ?_ ?_|(with_reducible refine onB_n (λ_=>?_) (λ_=>?_))|refine Ends.mk ?_))
 all_goals(try refine Pr.mk ?_)
 all_goals(try simp only[bK,fU]at *)
 all_goals first
  |exact⟨h1,by omega,h2,h5⟩|exact⟨by omega,h4⟩|(exfalso;rename ¬True=>h;exact h trivial)|rfl⟩
set_option maxHeartbeats 16000000 in
instance amn(ls:List LayD)(es:List Ent):DenI Tryz.prog 38 [.agg [(.sl 3 (ls.map dI)),.sl 7 (es.map cO)]] (ls.length≤1000∧(∀l∈ls,l.name.size≤1000)∧es.length≤12∧(∀e∈es,okV e)∧(∀e∈es,pJ (gQ e))∧kG ls (es.map gQ)=0) (.c (.sl 1 ((Qz (aY es) (aY es).length).map Zp))):=⟨λ⟨h1,h2,h3,h4,h5,h8⟩=>by
 haveI i_v:DenI Tryz.prog 20 [.agg [(.sl 3 (ls.map dI)),.sl 7 (es.map cO)]] (ls.length≤1000∧es.length≤1000∧(∀l∈ls,l.name.size≤1000)∧∀e∈es,pJ (gQ e)) (.int .i64 0):=⟨λhp=>by have:=(Oc ls es).den hp;rwa [h8]at this⟩
 have hz1:=Cc h4;have hz2:=Bv h4;have hzl:es.zipIdx.length=es.length:=by rw[SL]
 have hol:=uN es;have hrl:(aY es).length=es.length:=fM es;refine acs Tryz.func38 rfl ?_
 (conv=>whnf)
 all_goals(repeat'((try(conv=>whnf));first
  |refine call_i ?_ ?_|(with_reducible refine onB_n (λ_=>?_) (λ_=>?_))|refine Ends.mk ?_))
 all_goals(try refine Pr.mk ?_)
 all_goals(try simp only[bK,fU]at *)
 all_goals(try rw[agO])
 all_goals first
  |((conv=>whnf);refine Sw.Loop.ghost 3 100 3 1 ?_ rfl rfl rfl (by decide);refine Sw.Loop.inv (α:=Nat) (λx=>[(3,.gs 100 ((Qz (aY es) x).map Zp).length),(11,.c (.sl 1 ((aY es).map bC))),(12,.int .i64 ((aY es).length:Nat)),(13,.int .i64 (x:Nat))]) (λx=>[(100,.grow 3 1 ((Qz (aY es) x).map Zp))]) (λx=>x≤(aY es).length) (λx=>(aY es).length-x) 0 ?_ ?_ ?_ (λx hx=>?_))|skip
 all_goals(repeat'((try(conv=>whnf));first
  |(with_reducible refine onB_d (λ_=>?_) (λ_=>?_))|refine OnB.mk (λ_=>?_) (λ_=>?_)|refine obl_i ?_ ?_|refine elem_map false ?_ ?_|refine Ends.mk ?_))
 all_goals(try refine Pr.mk ?_)
 all_goals(try simp only[bK,fU]at *)
 all_goals(try(have hdx:=Io (aY es) x))
 all_goals first
  |omega|((with_reducible show(_:Nat)≤_);simp only[gY,bK,iH,jf];omega)|exact⟨h1,by omega,h2,h5⟩|exact⟨by omega,hz2⟩|(exfalso;rename ¬True=>h;exact h trivial)|exact⟨rfl,rfl,(by first|rfl|(show some _=some _;simp only[bK];rfl)),rfl,trivial⟩|exact⟨rfl,trivial⟩|((with_reducible show packA _=_);have hxx:x=(aY es).length:=(by omega);subst hxx;rfl)|(have hm:=acj (rs:=(aY es)) (x:=x) (by assumption);(conv=>whnf);exact⟨x+1,⟨⟨(by(simp only[hm,fO,gB,iD,gy,gY,bK,iH,jf]);(first|done|rfl)),rfl,rfl,aW (by omega),trivial⟩,⟨(by(simp only[hm,fO,gB,iD,gy]);(first|done|rfl)),trivial⟩,by omega,(by show(aY es).length-(x+1)<(aY es).length-x;omega)⟩⟩)|(have hm:=acL (rs:=(aY es)) (x:=x) (by assumption);(conv=>whnf);exact⟨x+1,⟨⟨(by(simp only[hm,fO,gB,iD,gy,gY,bK,iH,jf]);(first|done|rfl)),rfl,rfl,aW (by omega),trivial⟩,⟨(by(simp only[hm,fO,gB,iD,gy]);(first|done|rfl)),trivial⟩,by omega,(by show(aY es).length-(x+1)<(aY es).length-x;omega)⟩⟩)⟩
set_option maxHeartbeats 16000000 in
instance akM(ls:List LayD)(es:List Ent):DenI Tryz.prog 39 [.agg [(.sl 3 (ls.map dI)),.sl 7 (es.map cO)]] (ls.length≤1000∧(∀l∈ls,l.name.size≤1000)∧es.length≤12∧(∀e∈es,okV e)∧(∀e∈es,pJ (gQ e))∧kG ls (es.map gQ)=0) (.c (.sl 1 ((Qz (aY es) (aY es).length).map Zp))):=⟨λ⟨h1,h2,h3,h4,h5,h8⟩=>by
 haveI i_v:DenI Tryz.prog 22 [.agg [(.sl 3 (ls.map dI)),.sl 7 (es.map cO)]] (ls.length≤1000∧es.length≤1000∧(∀l∈ls,l.name.size≤1000)∧∀e∈es,pJ (gQ e)) (.int .i64 0):=⟨λhp=>by have:=(Qp ls es).den hp;rwa [h8]at this⟩
 have hz1:=Cc h4;have hz2:=Bv h4;have hzl:es.zipIdx.length=es.length:=by rw[SL]
 have hol:=uN es;have hrl:(aY es).length=es.length:=fM es;refine acs Tryz.func39 rfl ?_
 (conv=>whnf)
 all_goals(repeat'((try(conv=>whnf));first
  |refine call_i ?_ ?_|(with_reducible refine onB_n (λ_=>?_) (λ_=>?_))|refine Ends.mk ?_))
 all_goals(try refine Pr.mk ?_)
 all_goals(try simp only[bK,fU]at *)
 all_goals first
  |((conv=>whnf);refine Sw.Loop.ghost 3 100 3 1 ?_ rfl rfl rfl (by decide);refine Sw.Loop.inv (α:=Nat) (λx=>[(3,.gs 100 ((Qz (aY es) x).map Zp).length),(4,.c (.sl 1 ((aY es).map bC))),(5,.int .i64 (x:Nat))]) (λx=>[(100,.grow 3 1 ((Qz (aY es) x).map Zp))]) (λx=>x≤(aY es).length) (λx=>(aY es).length-x) 0 ?_ ?_ ?_ (λx hx=>?_))|skip
 all_goals(repeat'((try(conv=>whnf));first
  |(with_reducible refine onB_d (λ_=>?_) (λ_=>?_))|refine OnB.mk (λ_=>?_) (λ_=>?_)|refine obl_i ?_ ?_|refine elem_map false ?_ ?_|refine Ends.mk ?_))
 all_goals(try refine Pr.mk ?_)
 all_goals(try simp only[bK,fU]at *)
 all_goals(try(have hdx:=Io (aY es) x))
 all_goals first
  |omega|((with_reducible show(_:Nat)≤_);simp only[gY,bK,iH,jf];omega)|exact⟨h1,by omega,h2,h5⟩|exact⟨by omega,h4⟩|(exfalso;rename ¬True=>h;exact h trivial)|exact⟨rfl,rfl,rfl,trivial⟩|exact⟨rfl,trivial⟩|((with_reducible show packA _=_);have hxx:x=(aY es).length:=(by omega);subst hxx;rfl)|(have hm:=acj (rs:=(aY es)) (x:=x) (by assumption);(conv=>whnf);exact⟨x+1,⟨⟨(by(simp only[hm,fO,gB,iD,gy,gY,bK,iH,jf]);(first|done|rfl)),rfl,aW (by omega),trivial⟩,⟨(by(simp only[hm,fO,gB,iD,gy]);(first|done|rfl)),trivial⟩,by omega,(by show(aY es).length-(x+1)<(aY es).length-x;omega)⟩⟩)|(have hm:=acL (rs:=(aY es)) (x:=x) (by assumption);(conv=>whnf);exact⟨x+1,⟨⟨(by(simp only[hm,fO,gB,iD,gy,gY,bK,iH,jf]);(first|done|rfl)),rfl,aW (by omega),trivial⟩,⟨(by(simp only[hm,fO,gB,iD,gy]);(first|done|rfl)),trivial⟩,by omega,(by show(aY es).length-(x+1)<(aY es).length-x;omega)⟩⟩)⟩
instance akI(L:List (Nat × Nat)):DenI Tryz.prog 34 [.c (.sl 2 (L.map LU)),.c (.sl 2 (L.map LU))] (L.length≤1000000) (.bool true):=⟨λhp=>by
 refine acs Tryz.func34 rfl ?_
 all_goals(repeat'((try(conv=>whnf));first
  |(with_reducible refine onB_n (λ_=>?_) (λ_=>?_))|refine Ends.mk ?_))
 all_goals(try simp only[bK,fU]at *)
 all_goals first
  |((conv=>whnf);refine Sw.Loop.inv (α:=Nat) (λx=>[(0,.c (.sl 2 (L.map LU))),(1,.c (.sl 2 (L.map LU))),(12,.int .i64 (L.length:Nat)),(13,.int .i64 (x:Nat))]) (λx=>[]) (λx=>x≤L.length) (λx=>L.length-x) 0 ?_ ?_ ?_ (λx hx=>?_))|skip
 all_goals(repeat'((try(conv=>whnf));first
  |(with_reducible refine onB_d (λ_=>?_) (λ_=>?_))|refine OnB.mk (λ_=>?_) (λ_=>?_)|refine Drw.mk (by kernel_rfl) ?_|refine elem_map (0,0) ?_ ?_|refine Ends.mk ?_))
 all_goals(try refine Pr.mk ?_)
 all_goals(try simp only[bK,fU]at *)
 all_goals first
  |omega|trivial|((conv=>whnf);exact⟨x+1,⟨⟨rfl,rfl,rfl,aW (by omega),trivial⟩,trivial,by omega,(by show L.length-(x+1)<L.length-x;omega)⟩⟩)⟩
instance alF(L:List Nat):DenI Tryz.prog 37 [.c (.sl 1 (L.map Zp)),.c (.sl 1 (L.map Zp))] (L.length≤1000000) (.bool true):=⟨λhp=>by
 refine acs Tryz.func37 rfl ?_
 all_goals(repeat'((try(conv=>whnf));first
  |(with_reducible refine onB_n (λ_=>?_) (λ_=>?_))|refine Ends.mk ?_))
 all_goals(try simp only[bK,fU]at *)
 all_goals first
  |((conv=>whnf);refine Sw.Loop.inv (α:=Nat) (λx=>[(0,.c (.sl 1 (L.map Zp))),(1,.c (.sl 1 (L.map Zp))),(12,.int .i64 (L.length:Nat)),(13,.int .i64 (x:Nat))]) (λx=>[]) (λx=>x≤L.length) (λx=>L.length-x) 0 ?_ ?_ ?_ (λx hx=>?_))|skip
 all_goals(repeat'((try(conv=>whnf));first
  |(with_reducible first|refine onB_d (λ_=>?_) (λ_=>?_)|refine onB_n (λ_=>?_) (λ_=>?_))|refine Drw.mk (by kernel_rfl) ?_|refine elem_map 0 ?_ ?_|refine Ends.mk ?_))
 all_goals(try refine Pr.mk ?_)
 all_goals(try simp only[bK,fU]at *)
 all_goals first
  |omega|trivial|((conv=>whnf);exact⟨x+1,⟨⟨rfl,rfl,rfl,aW (by omega),trivial⟩,trivial,by omega,(by show L.length-(x+1)<L.length-x;omega)⟩⟩)⟩
instance aj3(x y u v:Int):DenI Tryz.prog 47 [.int .i64 x,.int .i64 y,.int .i64 u,.int .i64 v] (mX x∧mX y∧mX u∧mX v) (.agg (cO (JZ x y u v))):=⟨λhp=>by
 obtain⟨h1,h2,h3,h4⟩:=hp;unfold mX at *
 all_goals refine acs Tryz.func47 rfl ?_
 all_goals(repeat'((try(conv=>whnf));first
  |refine call_i ?_ ?_|refine Ends.mk ?_))
 all_goals(try refine Pr.mk ?_)
 all_goals first
  |exact⟨h1,h2⟩|exact⟨h3,h4⟩|rfl⟩
instance akF(es:List (List Cell)):DenI Tryz.prog 46 [.c (.sl 7 es)] (True) (.agg [.sl 3 (aLL.map dI),.sl 7 es]):=⟨λhp=>by
 refine acs Tryz.func46 rfl ?_
 all_goals(repeat'((try(conv=>whnf));first
  |refine Ends.mk ?_))
 all_goals first
  |rfl⟩
instance ak1:DenI Tryz.prog 11 [] (True) (.bool true):=⟨λhp=>by
 haveI r1:DenI Tryz.prog 13 [.agg [.sl 3 (aLL.map dI),.sl 7 [cO (JZ 0 0 1000 0),cO (JZ 1003 0 0 1000),cO (JZ 0 1004 0 0)]],R ((5:Int):Rat)] True (.tup [.agg [.sl 3 (aLL.map dI),.sl 7 ((dJ (((5:Int):Rat)*((5:Int):Rat)) aw1).es.map cO)],.c (.sl 19 ((dJ (((5:Int):Rat)*((5:Int):Rat)) aw1).cs.map yN)),.int .i64 0]):=⟨λ_=>(Vm aLL aw1 ((5:Int):Rat)).den ⟨by decide,by decide,by decide,zK.1,zK.2,(MG (by decide) (by decide)).1,(MG (by decide) (by decide)).2,VI⟩⟩
 haveI r2:DenI Tryz.prog 13 [.agg [.sl 3 (aLL.map dI),.sl 7 [cO (JZ 0 0 1000 0),cO (JZ 1003 0 0 1000),cO (JZ 0 1004 0 0)]],R ((3:Int):Rat)] True (.tup [.agg [.sl 3 (aLL.map dI),.sl 7 ((dJ (((3:Int):Rat)*((3:Int):Rat)) aw1).es.map cO)],.c (.sl 19 ((dJ (((3:Int):Rat)*((3:Int):Rat)) aw1).cs.map yN)),.int .i64 0]):=⟨λ_=>(Vm aLL aw1 ((3:Int):Rat)).den ⟨by decide,by decide,by decide,zK.1,zK.2,(MG (by decide) (by decide)).1,(MG (by decide) (by decide)).2,VI⟩⟩
 haveI r3:DenI Tryz.prog 13 [.agg [.sl 3 (aLL.map dI),.sl 7 [cO (JZ 0 0 2 0)]],R ((5:Int):Rat)] True (.tup [.agg [.sl 3 (aLL.map dI),.sl 7 ((dJ (((5:Int):Rat)*((5:Int):Rat)) aw2).es.map cO)],.c (.sl 19 ((dJ (((5:Int):Rat)*((5:Int):Rat)) aw2).cs.map yN)),.int .i64 0]):=⟨λ_=>(Vm aLL aw2 ((5:Int):Rat)).den ⟨by decide,by decide,by decide,X5.1,X5.2,(MG (by decide) (by decide)).1,(MG (by decide) (by decide)).2,ahn⟩⟩
 haveI r4:DenI Tryz.prog 19 [.agg [.sl 3 (aLL.map dI),.sl 7 [cO (JZ 0 0 1000 0),cO (JZ 1003 0 0 1000),cO (JZ 0 1004 0 0)]],R ((5:Int):Rat)] True (.bool false):=⟨λ_=>by have h:=(ag8 aLL aw1 ((5:Int):Rat)).den ⟨by decide,by decide,by decide,zK.1,zK.2,(MG (by decide) (by decide)).1,(MG (by decide) (by decide)).2,VI⟩;rw[agv]at h;exact h⟩
 obtain⟨a1,b1⟩:=Xi ahv;obtain⟨a2,b2⟩:=Xi ahB;obtain⟨a3,b3⟩:=Xi ahO;have a4:=ahe;have c10:=b1 0 (by decide);have c11:=b1 1 (by decide);have c21:=b2 1 (by decide);have c22:=b2 2 (by decide);have c31:=b3 1 (by decide);generalize(dJ (((5:Int):Rat)*((5:Int):Rat)) aw1).cs=C1 at *;generalize(dJ (((3:Int):Rat)*((3:Int):Rat)) aw1).cs=C2 at *;generalize(dJ (((5:Int):Rat)*((5:Int):Rat)) aw2).cs=C3 at *;generalize(dJ (((5:Int):Rat)*((5:Int):Rat)) aw2).es=E3 at *;generalize(dJ (((5:Int):Rat)*((5:Int):Rat)) aw1).es=E1 at *;generalize(dJ (((3:Int):Rat)*((3:Int):Rat)) aw1).es=E2 at *;have d10:(C1.getD 0 C0).kind=1∧(C1.getD 0 C0).ent=1:=c10;have d11:(C1.getD 1 C0).kind=1∧(C1.getD 1 C0).ent=2:=c11;have d21:(C2.getD 1 C0).kind=4∧(C2.getD 1 C0).ent=1:=c21;have d22:(C2.getD 2 C0).kind=4∧(C2.getD 2 C0).ent=2:=c22;have d31:(C3.getD 1 C0).kind=2∧(C3.getD 1 C0).ent=0:=c31;clear b1 b2 b3 c10 c11 c21 c22 c31
 all_goals refine acs Tryz.func11 rfl ?_
 all_goals(repeat'((try(conv=>whnf));first
  |refine call_0 ?_|refine call_i ?_ ?_|(with_reducible first|refine onB_t ?_|refine onB_f ?_|refine onB_d (λ_=>?_) (λ_=>?_)|refine onB_n (λ_=>?_) (λ_=>?_))|refine Drw.mk (by kernel_rfl) ?_|refine elem_map C0 ?_ ?_|refine Ends.mk ?_))
 all_goals(try refine Pr.mk ?_)
 all_goals(try simp only[bK,a1,a2,a3,a4,iH,jf]at *)
 all_goals(try simp only[Vp,show Int.toNat 1=1 from rfl,show Int.toNat 2=2 from rfl]at *)
 all_goals first
  |trivial|omega⟩
instance aml(r:Rq):DenI Tryz.prog 112 [.agg (bD r)] (True) (.bool (ZC r)):=⟨λhp=>by
 refine acs Tryz.func112 rfl ?_
 all_goals(repeat'((try(conv=>whnf));first
  |(with_reducible first|refine onB_t ?_|refine onB_f ?_|refine onB_d (λ_=>?_) (λ_=>?_))|refine Ends.mk ?_))
 all_goals(try simp only[bK,fU]at *)
 all_goals first
  |(refine bE ?_;unfold ZC;rw[Bf];simp only[fC,decide_eq_true_eq];omega)|(refine bE ?_;exact(afp (by omega)).symm)⟩
instance amA(ls:List LayD)(es:List EntR):DenI Tryz.prog 75 [.agg [(.sl 3 (ls.map dI)),.sl 7 (es.map dP)]] (es.length≤12) (.bool (KI ls es)):=⟨λhp=>by
 refine acs Tryz.func75 rfl ?_
 all_goals(repeat'((try(conv=>whnf));first
  |(with_reducible first|refine onB_t ?_|refine onB_f ?_|refine onB_d (λ_=>?_) (λ_=>?_))|refine Ends.mk ?_))
 all_goals(try simp only[bK,fU]at *)
 all_goals first
  |((conv=>whnf);refine Sw.Loop.inv (α:=Nat) (λx=>[(1,.ptr 1 0),(3,.int .i64 (x:Nat))]) (λx=>[(1,.var [(.sl 3 (ls.map dI)),.sl 7 (es.map dP)])]) (λx=>x≤ls.length∧∀j<x,(ls.getD j L0).name.size≤60) (λx=>ls.length-x) 0 ?_ ?_ ?_ (λx hx=>?_))|skip
 all_goals(repeat'((try(conv=>whnf));first
  |(with_reducible refine onB_d (λ_=>?_) (λ_=>?_))|refine elem_map L0 ?_ ?_|refine Ends.mk ?_))
 all_goals(try refine Pr.mk ?_)
 all_goals(try simp only[bK,fU]at *)
 all_goals first
  |((conv=>whnf);refine Sw.Loop.inv (α:=Nat) (λy=>[(1,.ptr 1 0),(4,.int .i64 (y:Nat))]) (λy=>[(1,.var [(.sl 3 (ls.map dI)),.sl 7 (es.map dP)])]) (λy=>y≤es.length∧∀j<y,Au (es.getD j wK)=true) (λy=>es.length-y) 0 ?_ ?_ ?_ (λy hy=>?_))|skip
 all_goals(repeat'((try(conv=>whnf));first
  |refine call_0 ?_|(with_reducible first|refine onB_t ?_|refine onB_f ?_|refine onB_d (λ_=>?_) (λ_=>?_))|refine OnB.mk (λ_=>?_) (λ_=>?_)|refine elem_map wK ?_ ?_|refine Ends.mk ?_))
 all_goals(try refine Pr.mk ?_)
 all_goals(try simp only[bK,fU]at *)
 all_goals first
  |((conv=>whnf);refine Sw.Loop.inv (α:=Nat) (λz=>[(1,.ptr 1 0),(4,.int .i64 (y:Nat)),(5,.ptr 5 0),(6,.int .i64 (z:Nat))]) (λz=>[(1,.var [(.sl 3 (ls.map dI)),.sl 7 (es.map dP)]),(5,.var (dP (es.getD y wK)))]) (λz=>z≤(es.getD y wK).pts.length∧∀k<z,vsB ((es.getD y wK).pts.getD k sD)=true) (λz=>(es.getD y wK).pts.length-z) 0 ?_ ?_ ?_ (λz hz=>?_))|skip
 all_goals(repeat'((try(conv=>whnf));first
  |refine call_0 ?_|(with_reducible first|refine onB_t ?_|refine onB_f ?_|refine onB_d (λ_=>?_) (λ_=>?_))|refine OnB.mk (λ_=>?_) (λ_=>?_)|refine elem_map sD ?_ ?_|refine Ends.mk ?_))
 all_goals(try refine Pr.mk ?_)
 all_goals(try simp only[bK,fU]at *)
 all_goals first
  |trivial|omega|exact⟨oW _,λj hj=>absurd hj (Jr _)⟩|(refine bE ?_;rw[ad9 (by omega)];done)|(refine bE ?_;rw[aen (x:=x) (by omega) (by omega)];done)|(refine bE ?_;refine(Ir (x:=y) (by omega) (O8 (.inl ?_))).symm;omega)|(refine bE ?_;refine(Ir (x:=y) (by omega) (O8 (.inr (.inl ?_)))).symm;omega)|(refine bE ?_;refine(Ir (x:=y) (by omega) (adh (k:=z) (by omega) ?_)).symm;unfold vsB;simp_all;done)|(refine bE ?_;refine(Ir (x:=y) (by omega) (O8 (.inr (.inr ?_)))).symm;simp_all;done)|(refine bE ?_;have hxx:x=ls.length:=(by omega);subst hxx;have hyy:y=es.length:=(by omega);subst hyy;rw[ahy (by omega) hx.2 hy.2];done)|((conv=>whnf);exact⟨z+1,⟨⟨rfl,rfl,rfl,aW (by omega),trivial⟩,⟨rfl,rfl,trivial⟩,⟨by omega,dR hz.2 (by unfold vsB;simp_all;done)⟩,(by show(es.getD y wK).pts.length-(z+1)<(es.getD y wK).pts.length-z;omega)⟩⟩)|((conv=>whnf);exact⟨y+1,⟨⟨rfl,aW (by omega),trivial⟩,⟨rfl,trivial⟩,⟨by omega,dR hy.2 (adT (by omega) (by omega) (by simp_all;done) (by have hzz:z=(es.getD y wK).pts.length:=(by omega);subst hzz;exact hz.2))⟩,(by show es.length-(y+1)<es.length-y;omega)⟩⟩)|((conv=>whnf);exact⟨x+1,⟨⟨rfl,aW (by omega),trivial⟩,⟨rfl,trivial⟩,⟨by omega,dR hx.2 (by omega)⟩,(by show ls.length-(x+1)<ls.length-x;omega)⟩⟩)⟩
instance ai8(ls:List LayD)(es:List EntR):DenI Tryz.prog 33 [.agg [(.sl 3 (ls.map dI)),.sl 7 (es.map dP)]] (True) (.bool (decide (es.length≤12) && KI ls es)):=⟨λhp=>by
 refine acs Tryz.func33 rfl ?_
 all_goals(repeat'((try(conv=>whnf));first
  |refine call_i ?_ ?_|(with_reducible first|refine onB_t ?_|refine onB_f ?_|refine onB_d (λ_=>?_) (λ_=>?_))|refine Ends.mk ?_))
 all_goals(try refine Pr.mk ?_)
 all_goals(try simp only[bK,fU]at *)
 all_goals first
  |omega|(refine bE ?_;rw[decide_eq_true (by omega)];simp;done)|(refine bE ?_;rw[decide_eq_false (by omega)];rfl)⟩
theorem afd{es:List EntR}(h:∀e∈es,e.pts.length≤1000){x:Nat}(hx:x<es.length):(es.getD x wK).pts.length≤1000:=h _ (by simp[List.getD,hx])
theorem UK{l:List EntR}{x:Nat}(h:x<l.length):(l.take (x+1)).map dP=(l.take x).map dP++[dP (l.getD x wK)]:=by
 rw[Zn,fO];simp[List.getD,h]
theorem aaq(ls:List LayD)(es:List EntR)(h1:ls.length≤1000)(h2:es.length≤1000)(h3:∀e∈es,e.pts.length≤1000):
 Den Tryz.prog 14 [.agg [(.sl 3 (ls.map dI)),.sl 7 (es.map dP)]] (.agg [(.sl 3 (ls.map dI)),.sl 7 (es.map dP)]):=by
 refine Den.of ⟨by kernel_rfl,λw X vs ho hX hl hR=>?_⟩ rfl
 haveI:WOk Tryz.prog w:=⟨ho⟩
 refine enter Tryz.func14 rfl rfl (by rw[hl];rfl) λa hF=>?_
 have hc:=args_conc (N:=29) hX hl hR hF;refine cut_ok (τ:=NQ) vk eF 2 _ (QA:=λz e b=>z=.normal∧SubE [(3,.ptr 3 0),(2,.ptr 2 0),(1,.ptr 1 0)] e∧SubB [(1,.var [(.sl 3 (ls.map dI)),.sl 7 (es.map dP)]),(3,.var [(.sl 3 (ls.map dI)),.v (.slice none 0 0)]),(2,.var [.v (.slice none 0 0),.v (.slice none 0 0)])] b) (by kernel_rfl) ?_ hc (λe b a w hq hc2=>?_) (λx e b a w hx hq hc=>absurd hq.1 hx)
 case refine_1 =>
  clear hc hF hR hl hX
  all_goals(repeat'((try(conv=>whnf));first
   |refine call_i ?_ ?_))
  all_goals(try refine Pr.mk ?_)
  all_goals(try simp only[bK,fU]at *)
  all_goals first
   |omega|exact⟨rfl,⟨rfl,rfl,rfl,trivial⟩,⟨rfl,rfl,rfl,trivial⟩⟩
 clear hc;obtain⟨_,he,hb⟩:=hq;have hc:=hc2.sub he hb;clear he hb hc2 hF hR hl hX;replace hc:=hc.ghostF (i:=200) (j:=3) (T:=55) (s:=7) (k:=1) rfl rfl rfl rfl (by decide) rfl;refine awp_ok (τ:=NQ) vk eF _ (QA:=endO NQ _ [none] (.agg [(.sl 3 (ls.map dI)),.sl 7 (es.map dP)])) (by kernel_rfl) ?_ hc (λx e b a w' hx hc'=>endO_ok vk hx hc');clear hc ho
 all_goals(try simp only[bK,fU]at *)
 all_goals first
  |((conv=>whnf);refine Sw.Loop.inv (α:=Nat) (λx=>[(2,.ptr 2 0),(3,.ptr 3 0),(11,.c (.sl 7 (es.map dP))),(12,.int .i64 (es.length:Nat)),(13,.int .i64 (x:Nat))]) (λx=>[(200,.grow 55 7 ((es.take x).map dP)),(3,.varo [(.sl 3 (ls.map dI)),.ob 200 ((es.take x).map dP).length]),(2,.var [.v (.slice none 0 0),.v (.slice none 0 0)])]) (λx=>x≤es.length) (λx=>es.length-x) 0 ?_ ?_ ?_ (λx hx=>?_))
 all_goals(repeat'((try(conv=>whnf));first
  |refine call_i ?_ ?_|(with_reducible refine onB_d (λ_=>?_) (λ_=>?_))|refine obl_i ?_ ?_|refine elem_map wK ?_ ?_|refine Ends.mk ?_))
 all_goals(try refine Pr.mk ?_)
 all_goals(try simp only[bK,fU]at *)
 all_goals first
  |((with_reducible show(_:Nat)=_);rfl)|omega|(have hz:=afd h3 (x:=x) (by omega);omega)|((with_reducible show(_:Nat)≤_);simp only[gY,bK,iH,jf,vY];omega)|((with_reducible show SubE _ _);exact⟨rfl,rfl,rfl,rfl,rfl,trivial⟩)|((with_reducible show SubB _ _);exact⟨rfl,rfl,rfl,trivial⟩)|(have hm:=UK (l:=es) (x:=x) (by omega);have hn:(List.take (x+1) es).length=(List.take x es).length+(0+1):=(by simp only[vY];omega);(conv=>whnf);exact⟨x+1,⟨⟨rfl,rfl,rfl,rfl,aW (by omega),trivial⟩,⟨(by(simp only[hm,fO,gB,iD,gy]);(first|done|rfl)),(by(simp only[hm,hn,fO,gB,iD,gy,gY,bK,iH,jf]);(first|done|rfl)),rfl,trivial⟩,by omega,(by show es.length-(x+1)<es.length-x;omega)⟩⟩)|((with_reducible show packA _=_);have hxx:x=es.length:=(by omega);subst hxx;rw[ER];rfl)
instance(priority:=900) ahJ(ls:List LayD)(es:List EntR):DenI Tryz.prog 14 [.agg [(.sl 3 (ls.map dI)),.sl 7 (es.map dP)]] (ls.length≤1000∧es.length≤1000∧∀e∈es,pJ e) (.agg [(.sl 3 (ls.map dI)),.sl 7 (es.map dP)]):=⟨λ⟨h1,h2,h3⟩=>aaq ls es h1 h2 λe he=>dh (h3 e he).2.2.1 (by decide)⟩
instance(priority:=2000) aiX(ls:List LayD)(es:List Ent):DenI Tryz.prog 14 [.agg [(.sl 3 (ls.map dI)),.sl 7 (es.map cO)]] (ls.length≤1000∧es.length≤1000∧∀e∈es,pJ (gQ e)) (.agg [(.sl 3 (ls.map dI)),.sl 7 (es.map cO)]):=⟨λ⟨h1,h2,h3⟩=>by
 have h:=(ahJ ls (es.map gQ)).den ⟨h1,by rw[bK];exact h2,λe he=>by obtain⟨x,hx,rfl⟩:=iM.1 he;exact h3 x hx⟩;rw[BJ]at h
 exact h⟩
end Go.Proofs.YtmniihkenijjpaaGreatDoor
