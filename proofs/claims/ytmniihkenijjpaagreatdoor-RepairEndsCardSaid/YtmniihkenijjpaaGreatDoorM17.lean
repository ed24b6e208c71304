/-
  Rules of the abstract run, plain laws, and what functions answer, for the law RepairEnds.
  Conditions: none.
-/
import Derived.Test.YtmniihkenijjpaaGreatDoorM16
import Derived.Shelf.LaysM
import Derived.Shelf.Strconv.Itoa1
import Derived.Shelf.Strconv.Itoa2
import Derived.Lib.Walk
import Derived.Lib.ItoaMem
import Derived.Lib.ItoaLen
import Derived.Lib.AppendIntMem
import Derived.WalkKit
import Derived.BigCall
import Derived.BigGuard
import Derived.Shelf.SlicesE.Clone
set_option linter.all false
namespace Go.Proofs.YtmniihkenijjpaaGreatDoor
open Go Go.RowKit Go.Sw Go.Shelf
set_option maxRecDepth 100000
set_option maxHeartbeats 8000000
set_option synthInstance.maxSize 4000
set_option synthInstance.maxHeartbeats 400000
instance afe(a:Rat):DenI Tryz.prog 182 [R a] (rz a≤1000) (R (a*EP)):=⟨λhp=>by
 have i_a:RzB a 1000:=⟨hp⟩
 all_goals refine afh Tryz.func182 rfl ?_
 all_goals (repeat' ((try (conv=>whnf));first
  |refine ak ?_ ?_
  |refine Drw.mk (by kernel_rfl) ?_
  |refine Ends.mk ?_))
 all_goals (try refine Pr.mk ?_)
 all_goals first
  |(have z1:=Ku;exact ⟨by omega,Nat.le_trans z1 (by decide)⟩)
  |omega
  |rfl⟩
instance XV(a:Rat):DenI Tryz.prog 135 [R a] (rz a≤12) (.bool (UH a)):=⟨λhp=>by
 have z1:=Y6;have z2:=abB hp;have hv:=Gw a
 all_goals refine afh Tryz.func135 rfl ?_
 all_goals (repeat' ((try (conv=>whnf));first
  |refine ak ?_ ?_
  |(with_reducible refine aO ?_)
  |(with_reducible refine aT ?_)
  |(with_reducible refine au (λ_=>?_) (λ_=>?_))
  |refine OnB.mk (λ_=>?_) (λ_=>?_)
  |refine Drw.mk (by kernel_rfl) ?_
  |refine Ends.mk ?_))
 all_goals (try refine Pr.mk ?_)
 all_goals (try simp only [gu] at *)
 all_goals first
  |(exfalso;rename (!kC _ _ _ _)=true=>h;rw [Gw] at h;cases h)
  |omega
  |(refine ⟨?_, ?_⟩<;>first|(rw [oG];omega)|omega)
  |(have e1:(lim a.num.natAbs).length≤rz a:=kQ a;have e2:(lim (a.den:Int).natAbs).length≤rz a:=mF a;omega)
  |(refine bE ?_;unfold UH;simp only [*,not_true,not_false_iff,decide_true,decide_false,Bool.true_and,Bool.false_and,Bool.and_false];done)⟩
instance (priority:=50) Y0(r:Rq):DenI Tryz.prog 135 [.agg (Zh r)] (NM r∧vR r=false) (.bool false):=⟨λhp=>by
 obtain ⟨hp1,hp2⟩:=hp;unfold vR at hp2;obtain ⟨hp3,hp4⟩:=hp1
 all_goals refine afh Tryz.func135 rfl ?_
 all_goals (repeat' ((try (conv=>whnf));first
  |refine aI ?_
  |refine ak ?_ ?_
  |refine fO ?_ (λ_=>?_) (λ_=>?_)
  |(with_reducible refine aO ?_)
  |(with_reducible refine aT ?_)
  |(with_reducible refine au (λ_=>?_) (λ_=>?_))
  |(with_reducible refine dn (λ_=>?_) (λ_=>?_))
  |refine OnB.mk (λ_=>?_) (λ_=>?_)
  |refine bH ?_ ?_
  |refine Drw.mk (by kernel_rfl) ?_
  |refine iD ?_ ?_
  |refine iV ?_ ?_
  |(with_reducible refine dH ?_ ?_)
  |(with_reducible refine dA ?_)
  |(with_reducible refine dN ?_)
  |refine Ends.mk ?_))
 all_goals (try refine Pr.mk ?_)
 all_goals first
  |omega
  |rfl
  |(exfalso;rename (!kC _ _ _ _)=false=>h;rw [hp2] at h;cases h)
  |exact ⟨by omega,by omega⟩
  |skip⟩
instance (priority:=2000) x_len(r:Rq):DenI Tryz.prog 135 [.agg (Zh r)] (NM r) (.bool (ku r)):=⟨λhp=>by
 cases v:vR r with
 |false =>
  have h:=(Y0 r).den ⟨hp,v⟩;have e:ku r=false:=by unfold ku;rw [v];rfl
  rw [e];exact h
 |true =>
  have e:=Wq v;have e2:ku r=UH (qR r):=by unfold ku;rw [v];rfl
  have hz:rz (qR r)≤12:=Yh (e ▸ hp);have h:=(XV (qR r)).den hz;rw [e2];generalize qR r=q at e h;subst e
  exact h⟩
instance (priority:=2000) ad4(r:Rq):DenI Tryz.prog 49 [.agg (Zh r)] (vR r=true) (.int .i64 (aU (qR r))):=⟨λv=>by
 have e:=Wq v;have h:=(inferInstance:DenI Tryz.prog 49 [R (qR r)] _ (.int .i64 (aU (qR r)))).den trivial;generalize qR r=q at e h ⊢;subst e
 exact h⟩
instance (priority:=50) WQ(ly:ByteArray)(pts:List (Rq × Rq))(rd:Rq):DenI Tryz.prog 102 [.agg [.v (.int .i64 1),.v (.string ly),.sl 8 (pts.map dK),.v (.bool rd.a),aX rd.l,.v (.bool rd.b),aX rd.m]] (Ey ⟨1,ly,pts,rd⟩) (.bool (vU ⟨1,ly,pts,rd⟩)):=⟨λhp=>by
 have hpl:pts.length≤5:=hp.2.2.1;have hpr:NM rd:=hp.2.1
 all_goals refine afh Tryz.func102 rfl ?_
 all_goals (repeat' ((try (conv=>whnf));first
  |refine aI ?_
  |refine ak ?_ ?_
  |refine fO ?_ (λ_=>?_) (λ_=>?_)
  |(with_reducible refine aO ?_)
  |(with_reducible refine aT ?_)
  |(with_reducible refine au (λ_=>?_) (λ_=>?_))
  |(with_reducible refine dn (λ_=>?_) (λ_=>?_))
  |refine OnB.mk (λ_=>?_) (λ_=>?_)
  |refine bH ?_ ?_
  |refine Drw.mk (by kernel_rfl) ?_
  |refine iD ?_ ?_
  |refine iV ?_ ?_
  |(with_reducible refine dH ?_ ?_)
  |(with_reducible refine dA ?_)
  |(with_reducible refine dN ?_)
  |refine aP qO ?_ ?_
  |refine Ends.mk ?_))
 all_goals (try refine Pr.mk ?_)
 all_goals first
  |((conv=>whnf);refine Sw.Loop.inv (α:=Nat) (λx=>[(1,.ptr 1 0),(25,.c (.sl 8 (pts.map dK))),(26,.int .i64 (pts.length:Nat)),(27,.int .i64 (x:Nat))]) (λx=>[(1,.var [.v (.int .i64 1),.v (.string ly),.sl 8 (pts.map dK),.v (.bool rd.a),aX rd.l,.v (.bool rd.b),aX rd.m])]) (λx=>x≤pts.length∧∀j<x,(ku (pts.getD j qO).1 && ku (pts.getD j qO).2)=true) (λx=>pts.length-x) 0 ?_ ?_ ?_ (λx hx=>?_))
  |skip
 all_goals (repeat' ((try (conv=>whnf));first
  |refine aI ?_
  |refine ak ?_ ?_
  |refine fO ?_ (λ_=>?_) (λ_=>?_)
  |(with_reducible refine aO ?_)
  |(with_reducible refine aT ?_)
  |(with_reducible refine au (λ_=>?_) (λ_=>?_))
  |(with_reducible refine dn (λ_=>?_) (λ_=>?_))
  |refine OnB.mk (λ_=>?_) (λ_=>?_)
  |refine bH ?_ ?_
  |refine Drw.mk (by kernel_rfl) ?_
  |refine iD ?_ ?_
  |refine iV ?_ ?_
  |(with_reducible refine dH ?_ ?_)
  |(with_reducible refine dA ?_)
  |(with_reducible refine dN ?_)
  |refine aP qO ?_ ?_
  |refine Ends.mk ?_))
 all_goals (try refine Pr.mk ?_)
 all_goals (try simp only [List.length_map,Int.toNat_natCast] at *)
 all_goals (try simp only [gu] at *)
 all_goals first
  |(exfalso;omega)
  |omega
  |trivial
  |exact ⟨Nat.zero_le _,λj hj=>absurd hj (Nat.not_lt_zero _)⟩
  |exact (vG hp (by show _<pts.length;omega)).1
  |exact (vG hp (by show _<pts.length;omega)).2
  |exact hpr
  |exact I4 (by assumption)
  |exact ⟨rfl,rfl,by simp only [List.length_map];rfl,rfl,trivial⟩
  |((with_reducible show aA _=_);refine bE ?_;rw [xG (by simp only [];omega)];done)
  |((with_reducible show aA _=_);refine bE ?_;rw [Dt (x:=x) (by show x<pts.length;omega) (by simp_all;done)];done)
  |((with_reducible show aA _=_);refine bE ?_;have hxx:x=pts.length:=(by omega);subst hxx;rw [yR (e:=⟨1,ly,pts,rd⟩) (.inl ⟨rfl,by show pts.length=2;omega⟩) hx.2];simp_all;done)
  |((conv=>whnf);exact ⟨x+1,⟨⟨rfl,rfl,rfl,bM (by omega),trivial⟩,⟨rfl,trivial⟩,⟨by omega,iI hx.2 (by simp_all;done)⟩,(by show pts.length-(x+1)<pts.length-x;omega)⟩⟩)
  |skip⟩
instance (priority:=50) X7(ly:ByteArray)(pts:List (Rq × Rq))(rd:Rq):DenI Tryz.prog 102 [.agg [.v (.int .i64 2),.v (.string ly),.sl 8 (pts.map dK),.v (.bool rd.a),aX rd.l,.v (.bool rd.b),aX rd.m]] (Ey ⟨2,ly,pts,rd⟩) (.bool (vU ⟨2,ly,pts,rd⟩)):=⟨λhp=>by
 have hpl:pts.length≤5:=hp.2.2.1;have hpr:NM rd:=hp.2.1
 all_goals refine afh Tryz.func102 rfl ?_
 all_goals (repeat' ((try (conv=>whnf));first
  |refine aI ?_
  |refine ak ?_ ?_
  |refine fO ?_ (λ_=>?_) (λ_=>?_)
  |(with_reducible refine aO ?_)
  |(with_reducible refine aT ?_)
  |(with_reducible refine au (λ_=>?_) (λ_=>?_))
  |(with_reducible refine dn (λ_=>?_) (λ_=>?_))
  |refine OnB.mk (λ_=>?_) (λ_=>?_)
  |refine bH ?_ ?_
  |refine Drw.mk (by kernel_rfl) ?_
  |refine iD ?_ ?_
  |refine iV ?_ ?_
  |(with_reducible refine dH ?_ ?_)
  |(with_reducible refine dA ?_)
  |(with_reducible refine dN ?_)
  |refine aP qO ?_ ?_
  |refine Ends.mk ?_))
 all_goals (try refine Pr.mk ?_)
 all_goals first
  |((conv=>whnf);refine Sw.Loop.inv (α:=Nat) (λx=>[(1,.ptr 1 0),(25,.c (.sl 8 (pts.map dK))),(26,.int .i64 (pts.length:Nat)),(27,.int .i64 (x:Nat))]) (λx=>[(1,.var [.v (.int .i64 2),.v (.string ly),.sl 8 (pts.map dK),.v (.bool rd.a),aX rd.l,.v (.bool rd.b),aX rd.m])]) (λx=>x≤pts.length∧∀j<x,(ku (pts.getD j qO).1 && ku (pts.getD j qO).2)=true) (λx=>pts.length-x) 0 ?_ ?_ ?_ (λx hx=>?_))
  |skip
 all_goals (repeat' ((try (conv=>whnf));first
  |refine aI ?_
  |refine ak ?_ ?_
  |refine fO ?_ (λ_=>?_) (λ_=>?_)
  |(with_reducible refine aO ?_)
  |(with_reducible refine aT ?_)
  |(with_reducible refine au (λ_=>?_) (λ_=>?_))
  |(with_reducible refine dn (λ_=>?_) (λ_=>?_))
  |refine OnB.mk (λ_=>?_) (λ_=>?_)
  |refine bH ?_ ?_
  |refine Drw.mk (by kernel_rfl) ?_
  |refine iD ?_ ?_
  |refine iV ?_ ?_
  |(with_reducible refine dH ?_ ?_)
  |(with_reducible refine dA ?_)
  |(with_reducible refine dN ?_)
  |refine aP qO ?_ ?_
  |refine Ends.mk ?_))
 all_goals (try refine Pr.mk ?_)
 all_goals (try simp only [List.length_map,Int.toNat_natCast] at *)
 all_goals (try simp only [gu] at *)
 all_goals first
  |(exfalso;omega)
  |omega
  |trivial
  |exact ⟨Nat.zero_le _,λj hj=>absurd hj (Nat.not_lt_zero _)⟩
  |exact (vG hp (by show _<pts.length;omega)).1
  |exact (vG hp (by show _<pts.length;omega)).2
  |exact hpr
  |exact I4 (by assumption)
  |exact ⟨rfl,rfl,by simp only [List.length_map];rfl,rfl,trivial⟩
  |((with_reducible show aA _=_);refine bE ?_;rw [xG (by simp only [];omega)];done)
  |((with_reducible show aA _=_);refine bE ?_;rw [Dt (x:=x) (by show x<pts.length;omega) (by simp_all;done)];done)
  |((with_reducible show aA _=_);refine bE ?_;have hxx:x=pts.length:=(by omega);subst hxx;rw [yR (e:=⟨2,ly,pts,rd⟩) (.inr (.inl ⟨rfl,by show pts.length=3;omega⟩)) hx.2];simp_all;done)
  |((conv=>whnf);exact ⟨x+1,⟨⟨rfl,rfl,rfl,bM (by omega),trivial⟩,⟨rfl,trivial⟩,⟨by omega,iI hx.2 (by simp_all;done)⟩,(by show pts.length-(x+1)<pts.length-x;omega)⟩⟩)
  |skip⟩
instance (priority:=50) X6(ly:ByteArray)(pts:List (Rq × Rq))(rd:Rq):DenI Tryz.prog 102 [.agg [.v (.int .i64 3),.v (.string ly),.sl 8 (pts.map dK),.v (.bool rd.a),aX rd.l,.v (.bool rd.b),aX rd.m]] (Ey ⟨3,ly,pts,rd⟩) (.bool (vU ⟨3,ly,pts,rd⟩)):=⟨λhp=>by
 have hpl:pts.length≤5:=hp.2.2.1;have hpr:NM rd:=hp.2.1
 all_goals refine afh Tryz.func102 rfl ?_
 all_goals (repeat' ((try (conv=>whnf));first
  |refine aI ?_
  |refine ak ?_ ?_
  |refine fO ?_ (λ_=>?_) (λ_=>?_)
  |(with_reducible refine aO ?_)
  |(with_reducible refine aT ?_)
  |(with_reducible refine au (λ_=>?_) (λ_=>?_))
  |(with_reducible refine dn (λ_=>?_) (λ_=>?_))
  |refine OnB.mk (λ_=>?_) (λ_=>?_)
  |refine bH ?_ ?_
  |refine Drw.mk (by kernel_rfl) ?_
  |refine iD ?_ ?_
  |refine iV ?_ ?_
  |(with_reducible refine dH ?_ ?_)
  |(with_reducible refine dA ?_)
  |(with_reducible refine dN ?_)
  |refine aP qO ?_ ?_
  |refine Ends.mk ?_))
 all_goals (try refine Pr.mk ?_)
 all_goals first
  |((conv=>whnf);refine Sw.Loop.inv (α:=Nat) (λx=>[(1,.ptr 1 0),(25,.c (.sl 8 (pts.map dK))),(26,.int .i64 (pts.length:Nat)),(27,.int .i64 (x:Nat))]) (λx=>[(1,.var [.v (.int .i64 3),.v (.string ly),.sl 8 (pts.map dK),.v (.bool rd.a),aX rd.l,.v (.bool rd.b),aX rd.m])]) (λx=>x≤pts.length∧∀j<x,(ku (pts.getD j qO).1 && ku (pts.getD j qO).2)=true) (λx=>pts.length-x) 0 ?_ ?_ ?_ (λx hx=>?_))
  |skip
 all_goals (repeat' ((try (conv=>whnf));first
  |refine aI ?_
  |refine ak ?_ ?_
  |refine fO ?_ (λ_=>?_) (λ_=>?_)
  |(with_reducible refine aO ?_)
  |(with_reducible refine aT ?_)
  |(with_reducible refine au (λ_=>?_) (λ_=>?_))
  |(with_reducible refine dn (λ_=>?_) (λ_=>?_))
  |refine OnB.mk (λ_=>?_) (λ_=>?_)
  |refine bH ?_ ?_
  |refine Drw.mk (by kernel_rfl) ?_
  |refine iD ?_ ?_
  |refine iV ?_ ?_
  |(with_reducible refine dH ?_ ?_)
  |(with_reducible refine dA ?_)
  |(with_reducible refine dN ?_)
  |refine aP qO ?_ ?_
  |refine Ends.mk ?_))
 all_goals (try refine Pr.mk ?_)
 all_goals (try simp only [List.length_map,Int.toNat_natCast] at *)
 all_goals (try simp only [gu] at *)
 all_goals first
  |(exfalso;omega)
  |omega
  |trivial
  |exact ⟨Nat.zero_le _,λj hj=>absurd hj (Nat.not_lt_zero _)⟩
  |exact (vG hp (by show _<pts.length;omega)).1
  |exact (vG hp (by show _<pts.length;omega)).2
  |exact hpr
  |exact I4 (by assumption)
  |exact ⟨rfl,rfl,by simp only [List.length_map];rfl,rfl,trivial⟩
  |((with_reducible show aA _=_);refine bE ?_;rw [xG (by simp only [];omega)];done)
  |((with_reducible show aA _=_);refine bE ?_;rw [Dt (x:=x) (by show x<pts.length;omega) (by simp_all;done)];done)
  |((with_reducible show aA _=_);refine bE ?_;have hxx:x=pts.length:=(by omega);subst hxx;rw [yR (e:=⟨3,ly,pts,rd⟩) (.inr (.inr ⟨rfl,by show pts.length=1;omega⟩)) hx.2];simp_all;done)
  |((conv=>whnf);exact ⟨x+1,⟨⟨rfl,rfl,rfl,bM (by omega),trivial⟩,⟨rfl,trivial⟩,⟨by omega,iI hx.2 (by simp_all;done)⟩,(by show pts.length-(x+1)<pts.length-x;omega)⟩⟩)
  |skip⟩
instance (priority:=50) Yp(kd:Int)(ly:ByteArray)(pts:List (Rq × Rq))(rd:Rq):DenI Tryz.prog 102 [.agg [.v (.int .i64 kd),.v (.string ly),.sl 8 (pts.map dK),.v (.bool rd.a),aX rd.l,.v (.bool rd.b),aX rd.m]] (kd<1∨3<kd) (.bool (vU ⟨kd,ly,pts,rd⟩)):=⟨λhp=>by
 refine afh Tryz.func102 rfl ?_
 all_goals (repeat' ((try (conv=>whnf));first
  |refine aI ?_
  |refine ak ?_ ?_
  |refine fO ?_ (λ_=>?_) (λ_=>?_)
  |(with_reducible refine aO ?_)
  |(with_reducible refine aT ?_)
  |(with_reducible refine au (λ_=>?_) (λ_=>?_))
  |(with_reducible refine dn (λ_=>?_) (λ_=>?_))
  |refine OnB.mk (λ_=>?_) (λ_=>?_)
  |refine bH ?_ ?_
  |refine Drw.mk (by kernel_rfl) ?_
  |refine iD ?_ ?_
  |refine iV ?_ ?_
  |(with_reducible refine dH ?_ ?_)
  |(with_reducible refine dA ?_)
  |(with_reducible refine dN ?_)
  |refine Ends.mk ?_))
 all_goals (try refine Pr.mk ?_)
 all_goals first
  |(exfalso;omega)
  |((with_reducible show aA _=_);refine bE ?_;rw [xG (by simp only [];omega)];done)
  |skip⟩
instance (priority:=2000) aeO(e:EntR):DenI Tryz.prog 102 [.agg (oM e)] (Ey e) (.bool (vU e)):=⟨λhp=>by
 obtain ⟨kd,ly,pts,rd⟩:=e;have hk:(kd<1∨3<kd)∨kd=1∨kd=2∨kd=3:=by omega
 rcases hk with hk|rfl|rfl|rfl
 ·exact (Yp kd ly pts rd).den hk
 ·exact (WQ ly pts rd).den hp
 ·exact (X7 ly pts rd).den hp
 ·exact (X6 ly pts rd).den hp⟩
instance afa(ls:List LayD)(es:List EntR)(e:EntR):DenI Tryz.prog 64 [.agg [(.sl 3 (ls.map iP)),.sl 7 (es.map oM)],.agg (oM e)] (ls.length≤1000∧Ey e) (.int .i64 (WC ls e)):=⟨λhp=>by
 obtain ⟨hp1,hp2⟩:=hp
 all_goals refine afh Tryz.func64 rfl ?_
 all_goals (repeat' ((try (conv=>whnf));first
  |refine ak ?_ ?_
  |(with_reducible refine au (λ_=>?_) (λ_=>?_))
  |refine OnB.mk (λ_=>?_) (λ_=>?_)
  |refine Ends.mk ?_))
 all_goals (try refine Pr.mk ?_)
 all_goals first
  |assumption
  |(refine iE ?_;unfold WC;rw [if_pos (by assumption)];done)
  |(refine iE ?_;unfold WC;rw [if_neg (by assumption),if_pos (by simp_all;done)];done)
  |(refine iE ?_;unfold WC;rw [if_neg (by assumption),if_neg (by simp_all;done)];done)⟩
instance ac1(ls:List LayD):DenI Tryz.prog 63 [.c (.sl 3 (ls.map iP))] (0<ls.length∧ls.length≤1000∧(∀l∈ls,l.name.size≤1000)) (.int .i64 (rC ls)):=⟨λhp=>by
 obtain ⟨hp1,hp2,hp3⟩:=hp;have hw:(IntKind.i64.wrap ((ls.length:Int)-1))=((ls.length-1:Nat):Int):=by rw [bQ (by omega) (by omega)];omega
 all_goals refine afh Tryz.func63 rfl ?_
 all_goals (repeat' ((try (conv=>whnf));first
  |refine ak ?_ ?_
  |(with_reducible refine au (λ_=>?_) (λ_=>?_))
  |refine OnB.mk (λ_=>?_) (λ_=>?_)
  |refine aP L0 ?_ ?_
  |refine Ends.mk ?_))
 all_goals (try refine Pr.mk ?_)
 all_goals (try simp only [List.length_map,Int.toNat_natCast] at *)
 all_goals (try simp only [hw,Int.toNat_natCast] at *)
 all_goals first
  |omega
  |(have z:=Zz hp3 (ls.length-1);omega)
  |(refine iE ?_;unfold rC;rw [if_pos (by simp_all;done)];done)
  |(refine iE ?_;unfold rC;rw [if_neg (by simp_all;done),if_pos (by assumption)];done)
  |(refine iE ?_;unfold rC;rw [if_neg (by simp_all;done),if_neg (by assumption)];done)⟩
instance (priority:=2000) ae2(ls:List LayD)(a b:Nat):DenI Tryz.prog 63 [.c (.sl 3 (((ls.map iP).take b).drop a))] (a=0∧0<b∧b≤ls.length∧ls.length≤1000∧(∀l∈ls,l.name.size≤1000)) (.int .i64 (rC (ls.take b))):=⟨λ⟨h1,h2,h3,h4,h5⟩=>by
 have h:=(ac1 (ls.take b)).den ⟨by rw [List.length_take];omega,by rw [List.length_take];omega,λl hl=>h5 l (List.mem_of_mem_take hl)⟩;rw [List.map_take] at h;subst h1
 exact h⟩
instance ZP(ls:List LayD)(es:List EntR):DenI Tryz.prog 20 [.agg [(.sl 3 (ls.map iP)),.sl 7 (es.map oM)]] (ls.length≤1000∧es.length≤1000∧(∀l∈ls,l.name.size≤1000)∧∀e∈es,Ey e) (.int .i64 (rH ls es)):=⟨λhp=>by
 obtain ⟨hp1,hp2,hp3,hp4⟩:=hp
 all_goals refine afh Tryz.func20 rfl ?_
 all_goals (repeat' ((try (conv=>whnf));first
  |(with_reducible refine aO ?_)
  |(with_reducible refine aT ?_)
  |(with_reducible refine au (λ_=>?_) (λ_=>?_))
  |refine Ends.mk ?_))
 all_goals (try simp only [List.length_map,Int.toNat_natCast] at *)
 all_goals first
  |((conv=>whnf);refine Sw.Loop.inv (α:=Nat) (λx=>[(1,.ptr 1 0),(20,.int .i64 (ls.length:Nat)),(21,.int .i64 (x:Nat))]) (λx=>[(1,.var [(.sl 3 (ls.map iP)),.sl 7 (es.map oM)])]) (λx=>x≤ls.length∧∀j<x,y5 ls j=none) (λx=>ls.length-x) 0 ?_ ?_ ?_ (λx hx=>?_))
  |skip
 all_goals (repeat' ((try (conv=>whnf));first
  |refine ak ?_ ?_
  |(with_reducible refine au (λ_=>?_) (λ_=>?_))
  |(with_reducible refine dn (λ_=>?_) (λ_=>?_))
  |refine iV ?_ ?_
  |refine Ends.mk ?_))
 all_goals (try refine Pr.mk ?_)
 all_goals (try simp only [List.length_map,Int.toNat_natCast] at *)
 all_goals first
  |((conv=>whnf);refine Sw.Loop.inv (α:=Nat) (λy=>[(1,.ptr 1 0),(35,.c (.sl 7 (es.map oM))),(36,.int .i64 (es.length:Nat)),(37,.int .i64 (y:Nat))]) (λy=>[(1,.var [(.sl 3 (ls.map iP)),.sl 7 (es.map oM)])]) (λy=>y≤es.length∧∀j<y,GY ls es j=none) (λy=>es.length-y) 0 ?_ ?_ ?_ (λy hy=>?_))
  |skip
 all_goals (repeat' ((try (conv=>whnf));first
  |refine ak ?_ ?_
  |(with_reducible refine au (λ_=>?_) (λ_=>?_))
  |(with_reducible refine dn (λ_=>?_) (λ_=>?_))
  |refine aP Wi ?_ ?_
  |refine Ends.mk ?_))
 all_goals (try refine Pr.mk ?_)
 all_goals (try simp only [List.length_map,Int.toNat_natCast] at *)
 all_goals (try simp only [Option.getD_some,Option.getD_none,Int.toNat_natCast,Int.toNat_zero] at *)
 all_goals (try simp (disch:=omega) only [bQ] at *)
 all_goals (try (have ht:((x:Int)+1).toNat=x+1:=(by omega);simp only [ht] at *;clear ht))
 all_goals first
  |omega
  |trivial
  |exact ⟨Nat.zero_le _,λj hj=>absurd hj (Nat.not_lt_zero _)⟩
  |(refine ⟨by omega,by omega,by omega,by omega, ?_⟩;intro h;first|exact h|rfl|(cases h))
  |exact ⟨trivial,by omega,by omega,by omega,hp3⟩
  |exact ⟨by omega,abr hp4 (by omega)⟩
  |(refine iE ?_;rw [Vy (by omega)];done)
  |(refine iE ?_;rw [VN (by omega) (by omega) hx.2 ((Sj (by omega)).2 (by assumption))];done)
  |(refine iE ?_;have hxx:x=ls.length:=(by omega);subst hxx;rw [Uw (by omega) hx.2 (by omega) hy.2 (QU.2 (by assumption))];done)
  |(refine iE ?_;have hxx:x=ls.length:=(by omega);subst hxx;have hyy:y=es.length:=(by omega);subst hyy;rw [WZ (by omega) hx.2 hy.2];done)
  |((conv=>whnf);exact ⟨y+1,⟨⟨rfl,rfl,rfl,bM (by omega),trivial⟩,⟨rfl,trivial⟩,⟨by omega,iI hy.2 (QU.1 (by assumption))⟩,(by show es.length-(y+1)<es.length-y;omega)⟩⟩)
  |((conv=>whnf);exact ⟨x+1,⟨⟨rfl,rfl,bM (by omega),trivial⟩,⟨rfl,trivial⟩,⟨by omega,iI hx.2 ((Sj (by omega)).1 (by assumption))⟩,(by show ls.length-(x+1)<ls.length-x;omega)⟩⟩)⟩
instance ad1(l:List Nat):DenI Tryz.prog 106 [.c (aX l),.c (aX l)] (True) (.int .i64 0):=⟨λhp=>by
 refine gQ (by kernel_rfl) (λhl=>?_);simp only [pK,lK,cellsOf,List.length_map,and_true,true_and] at hl
 all_goals refine afh Tryz.func106 rfl ?_
 all_goals (repeat' ((try (conv=>whnf));first
  |(with_reducible refine au (λ_=>?_) (λ_=>?_))
  |(with_reducible refine dn (λ_=>?_) (λ_=>?_))
  |refine Ends.mk ?_))
 all_goals (try simp only [List.length_map,Int.toNat_natCast] at *)
 all_goals first
  |((conv=>whnf);refine Sw.Loop.inv (α:=Nat) (λx=>[(0,.c (aX l)),(1,.c (aX l)),(5,.int .i64 ((x:Nat)-1:Int))]) (λx=>[]) (λx=>x≤l.length∧True) (λx=>x) l.length ?_ ?_ ?_ (λx hx=>?_))
  |skip
 all_goals (repeat' ((try (conv=>whnf));first
  |(with_reducible refine au (λ_=>?_) (λ_=>?_))
  |refine Drw.mk (by kernel_rfl) ?_
  |(with_reducible refine dH ?_ ?_)
  |refine Ends.mk ?_))
 all_goals (try refine Pr.mk ?_)
 all_goals (try simp only [List.length_map,Int.toNat_natCast] at *)
 all_goals first
  |omega
  |trivial
  |exact ⟨Nat.le_refl _,trivial⟩
  |(refine ⟨rfl,rfl, ?_,trivial⟩;show some (AV.int .i64 _)=some (AV.int .i64 _);rw [bQ (by omega) (by omega)])
  |((conv=>whnf);exact ⟨x-1,⟨⟨rfl,rfl,(by show some (AV.int .i64 _)=some (AV.int .i64 _);rw [bQ (by omega) (by omega)];congr 2;omega),trivial⟩,trivial,⟨by omega,trivial⟩,(by show x-1<x;omega)⟩⟩)⟩
instance aeP(n:Bool)(l:List Nat):DenI Tryz.prog 111 [Zr n l,Zr n l] (True) (.bool true):=⟨λhp=>by
 refine afh Tryz.func111 rfl ?_
 all_goals (repeat' ((try (conv=>whnf));first
  |refine aI ?_
  |(with_reducible refine aO ?_)
  |(with_reducible refine aT ?_)
  |refine OnB.mk (λ_=>?_) (λ_=>?_)
  |refine Ends.mk ?_))
 all_goals first
  |rfl
  |(exfalso;simp at *;done)⟩
instance aes(r:Rq):DenI Tryz.prog 74 [.agg (Zh r),.agg (Zh r)] (True) (.bool true):=⟨λhp=>by
 refine afh Tryz.func74 rfl ?_
 all_goals (repeat' ((try (conv=>whnf));first
  |refine aI ?_
  |(with_reducible refine aO ?_)
  |refine Ends.mk ?_))
 all_goals first
  |rfl⟩
instance afg(p:Rq × Rq):DenI Tryz.prog 27 [.agg (dK p),.agg (dK p)] (True) (.bool true):=⟨λhp=>by
 refine afh Tryz.func27 rfl ?_
 all_goals (repeat' ((try (conv=>whnf));first
  |refine aI ?_
  |(with_reducible refine aO ?_)
  |refine Ends.mk ?_))
 all_goals first
  |rfl⟩
instance (priority:=50) aa8(l:List (Rq × Rq)):DenI Tryz.prog 32 [.c (.sl 8 (l.map dK)),.c (.sl 8 (l.map dK)),.c (.v (.func (.func 27) #[] #[]))] (l.length≤5) (.bool true):=⟨λhp=>by
 refine afh Tryz.func32 rfl ?_
 all_goals (repeat' ((try (conv=>whnf));first
  |refine aI ?_
  |refine ak ?_ ?_
  |refine fO ?_ (λ_=>?_) (λ_=>?_)
  |(with_reducible refine aO ?_)
  |(with_reducible refine aT ?_)
  |(with_reducible refine au (λ_=>?_) (λ_=>?_))
  |(with_reducible refine dn (λ_=>?_) (λ_=>?_))
  |refine OnB.mk (λ_=>?_) (λ_=>?_)
  |refine bH ?_ ?_
  |refine Drw.mk (by kernel_rfl) ?_
  |refine iD ?_ ?_
  |refine iV ?_ ?_
  |(with_reducible refine dH ?_ ?_)
  |(with_reducible refine dA ?_)
  |(with_reducible refine dN ?_)
  |refine aP qO ?_ ?_
  |refine Ends.mk ?_))
 all_goals (try refine Pr.mk ?_)
 all_goals (try simp only [List.length_map,Int.toNat_natCast] at *)
 all_goals first
  |((conv=>whnf);refine Sw.Loop.inv (α:=Nat) (λx=>[(1,.c (.sl 8 (l.map dK))),(2,.c (.v (.func (.func 27) #[] #[]))),(15,.c (.sl 8 (l.map dK))),(16,.int .i64 (l.length:Nat)),(17,.int .i64 (x:Nat))]) (λx=>[]) (λx=>x≤l.length∧True) (λx=>l.length-x) 0 ?_ ?_ ?_ (λx hx=>?_))
  |skip
 all_goals (repeat' ((try (conv=>whnf));first
  |refine aI ?_
  |refine ak ?_ ?_
  |refine fO ?_ (λ_=>?_) (λ_=>?_)
  |(with_reducible refine aO ?_)
  |(with_reducible refine aT ?_)
  |(with_reducible refine au (λ_=>?_) (λ_=>?_))
  |(with_reducible refine dn (λ_=>?_) (λ_=>?_))
  |refine OnB.mk (λ_=>?_) (λ_=>?_)
  |refine bH ?_ ?_
  |refine Drw.mk (by kernel_rfl) ?_
  |refine iD ?_ ?_
  |refine iV ?_ ?_
  |(with_reducible refine dH ?_ ?_)
  |(with_reducible refine dA ?_)
  |(with_reducible refine dN ?_)
  |refine aP qO ?_ ?_
  |refine Ends.mk ?_))
 all_goals (try refine Pr.mk ?_)
 all_goals (try simp only [List.length_map,Int.toNat_natCast] at *)
 all_goals first
  |omega
  |trivial
  |exact ⟨Nat.zero_le _,trivial⟩
  |rfl
  |(exfalso;omega)
  |exact ⟨rfl,rfl,rfl,by simp only [List.length_map];rfl,rfl,trivial⟩
  |((conv=>whnf);exact ⟨x+1,⟨⟨rfl,rfl,rfl,rfl,bM (by omega),trivial⟩,trivial,⟨by omega,trivial⟩,(by show l.length-(x+1)<l.length-x;omega)⟩⟩)
  |skip⟩
instance aeR(p q:Rq × Rq):DenI Tryz.prog 32 [.c (.sl 8 [dK p,dK q]),.c (.sl 8 [dK p,dK q]),.c (.v (.func (.func 27) #[] #[]))] True (.bool true):=⟨λ_=>(aa8 [p,q]).den (by simp)⟩
instance aeb:DenI Tryz.prog 32 [.c (.sl 0 []),.c (.sl 0 []),.c (.v (.func (.func 27) #[] #[]))] (True) (.bool true):=⟨λhp=>by
 refine afh Tryz.func32 rfl ?_
 all_goals (repeat' ((try (conv=>whnf));first
  |(with_reducible refine dn (λ_=>?_) (λ_=>?_))
  |refine Ends.mk ?_))
 all_goals first
  |((conv=>whnf);refine Sw.Loop.inv (α:=Nat) (λx=>[(16,.int .i64 0),(17,.int .i64 0)]) (λx=>[]) (λx=>x≤0∧True) (λx=>x) 0 ?_ ?_ ?_ (λx hx=>?_))
  |skip
 all_goals (repeat' ((try (conv=>whnf));first
  |(with_reducible refine au (λ_=>?_) (λ_=>?_))
  |refine Ends.mk ?_))
 all_goals first
  |omega
  |trivial⟩
instance (priority:=60) V5(kd:Int)(ly:ByteArray)(pts:List (Rq × Rq))(rd:Rq):DenI Tryz.prog 30 [.agg [.v (.int .i64 kd),.v (.string ly),.sl 8 (pts.map dK),.v (.bool rd.a),aX rd.l,.v (.bool rd.b),aX rd.m]] (kd=1∧pts.length=2∨kd=2∧pts.length=3) (.tup [.c (.sl 8 [dK (pts.getD 0 qO),dK (pts.getD (pts.length-1) qO)]),.bool true]):=⟨λhp=>by
 refine afh Tryz.func30 rfl ?_
 all_goals (repeat' ((try (conv=>whnf));first
  |refine aI ?_
  |refine ak ?_ ?_
  |refine fO ?_ (λ_=>?_) (λ_=>?_)
  |(with_reducible refine aO ?_)
  |(with_reducible refine aT ?_)
  |(with_reducible refine au (λ_=>?_) (λ_=>?_))
  |(with_reducible refine dn (λ_=>?_) (λ_=>?_))
  |refine OnB.mk (λ_=>?_) (λ_=>?_)
  |refine bH ?_ ?_
  |refine Drw.mk (by kernel_rfl) ?_
  |refine iD ?_ ?_
  |refine iV ?_ ?_
  |(with_reducible refine dH ?_ ?_)
  |(with_reducible refine dA ?_)
  |(with_reducible refine dN ?_)
  |refine aP qO ?_ ?_
  |refine Ends.mk ?_))
 all_goals (try refine Pr.mk ?_)
 all_goals (try simp only [List.length_map,Int.toNat_natCast] at *)
 all_goals (try simp (disch:=omega) only [bQ] at *)
 all_goals (try (have e1:((pts.length:Int)-1).toNat=pts.length-1:=(by omega);simp only [e1] at *;clear e1))
 all_goals first
  |(exfalso;omega)
  |omega
  |rfl
  |(have e2:pts.length-1=1:=(by omega);rw [e2];rfl)
  |(have e2:pts.length-1=2:=(by omega);rw [e2];rfl)
  |skip⟩
instance aeH(ly:ByteArray)(a b:Rq × Rq)(rd:Rq):DenI Tryz.prog 30 [.agg [.v (.int .i64 1),.v (.string ly),.sl 8 [dK a,dK b],.v (.bool rd.a),aX rd.l,.v (.bool rd.b),aX rd.m]] True (.tup [.c (.sl 8 [dK a,dK b]),.bool true]):=⟨λ_=>(V5 1 ly [a,b] rd).den (.inl ⟨rfl,rfl⟩)⟩
instance aeD(ly:ByteArray)(a m b:Rq × Rq)(rd:Rq):DenI Tryz.prog 30 [.agg [.v (.int .i64 2),.v (.string ly),.sl 8 [dK a,dK m,dK b],.v (.bool rd.a),aX rd.l,.v (.bool rd.b),aX rd.m]] True (.tup [.c (.sl 8 [dK a,dK b]),.bool true]):=⟨λ_=>(V5 2 ly [a,m,b] rd).den (.inr ⟨rfl,rfl⟩)⟩
instance (priority:=50) aac(kd:Int)(ly:ByteArray)(pts:List (Rq × Rq))(rd:Rq):DenI Tryz.prog 30 [.agg [.v (.int .i64 kd),.v (.string ly),.sl 8 (pts.map dK),.v (.bool rd.a),aX rd.l,.v (.bool rd.b),aX rd.m]] (¬(kd=1∧pts.length=2∨kd=2∧pts.length=3)) (.tup [.c (.sl 0 []),.bool false]):=⟨λhp=>by
 refine afh Tryz.func30 rfl ?_
 all_goals (repeat' ((try (conv=>whnf));first
  |refine aI ?_
  |refine ak ?_ ?_
  |refine fO ?_ (λ_=>?_) (λ_=>?_)
  |(with_reducible refine aO ?_)
  |(with_reducible refine aT ?_)
  |(with_reducible refine au (λ_=>?_) (λ_=>?_))
  |(with_reducible refine dn (λ_=>?_) (λ_=>?_))
  |refine OnB.mk (λ_=>?_) (λ_=>?_)
  |refine bH ?_ ?_
  |refine Drw.mk (by kernel_rfl) ?_
  |refine iD ?_ ?_
  |refine iV ?_ ?_
  |(with_reducible refine dH ?_ ?_)
  |(with_reducible refine dA ?_)
  |(with_reducible refine dN ?_)
  |refine aP qO ?_ ?_
  |refine Ends.mk ?_))
 all_goals (try refine Pr.mk ?_)
 all_goals (try simp only [List.length_map,Int.toNat_natCast] at *)
 all_goals first
  |rfl
  |(exfalso;omega)
  |omega
  |skip⟩
instance (priority:=60) Wu(kd:Int)(ly:ByteArray)(pts:List (Rq × Rq))(rd:Rq):DenI Tryz.prog 26 [.agg [.v (.int .i64 kd),.v (.string ly),.sl 8 (pts.map dK),.v (.bool rd.a),aX rd.l,.v (.bool rd.b),aX rd.m]] (kd=1∧pts.length=2∨kd=2∧pts.length=3) (.tup [.c (.sl 8 [dK (pts.getD 0 qO),dK (pts.getD (pts.length-1) qO)]),.bool true]):=⟨λhp=>by
 refine afh Tryz.func26 rfl ?_
 all_goals (repeat' ((try (conv=>whnf));first
  |refine aI ?_
  |refine ak ?_ ?_
  |refine fO ?_ (λ_=>?_) (λ_=>?_)
  |(with_reducible refine aO ?_)
  |(with_reducible refine aT ?_)
  |(with_reducible refine au (λ_=>?_) (λ_=>?_))
  |(with_reducible refine dn (λ_=>?_) (λ_=>?_))
  |refine OnB.mk (λ_=>?_) (λ_=>?_)
  |refine bH ?_ ?_
  |refine Drw.mk (by kernel_rfl) ?_
  |refine iD ?_ ?_
  |refine iV ?_ ?_
  |(with_reducible refine dH ?_ ?_)
  |(with_reducible refine dA ?_)
  |(with_reducible refine dN ?_)
  |refine aP qO ?_ ?_
  |refine Ends.mk ?_))
 all_goals (try refine Pr.mk ?_)
 all_goals (try simp only [List.length_map,Int.toNat_natCast] at *)
 all_goals (try simp (disch:=omega) only [bQ] at *)
 all_goals (try (have e1:((pts.length:Int)-1).toNat=pts.length-1:=(by omega);simp only [e1] at *;clear e1))
 all_goals first
  |(exfalso;omega)
  |omega
  |rfl
  |(have e2:pts.length-1=1:=(by omega);rw [e2];rfl)
  |(have e2:pts.length-1=2:=(by omega);rw [e2];rfl)
  |skip⟩
instance adV(ly:ByteArray)(a b:Rq × Rq)(rd:Rq):DenI Tryz.prog 26 [.agg [.v (.int .i64 1),.v (.string ly),.sl 8 [dK a,dK b],.v (.bool rd.a),aX rd.l,.v (.bool rd.b),aX rd.m]] True (.tup [.c (.sl 8 [dK a,dK b]),.bool true]):=⟨λ_=>(Wu 1 ly [a,b] rd).den (.inl ⟨rfl,rfl⟩)⟩
instance aee(ly:ByteArray)(a m b:Rq × Rq)(rd:Rq):DenI Tryz.prog 26 [.agg [.v (.int .i64 2),.v (.string ly),.sl 8 [dK a,dK m,dK b],.v (.bool rd.a),aX rd.l,.v (.bool rd.b),aX rd.m]] True (.tup [.c (.sl 8 [dK a,dK b]),.bool true]):=⟨λ_=>(Wu 2 ly [a,m,b] rd).den (.inr ⟨rfl,rfl⟩)⟩
instance (priority:=50) aa1(kd:Int)(ly:ByteArray)(pts:List (Rq × Rq))(rd:Rq):DenI Tryz.prog 26 [.agg [.v (.int .i64 kd),.v (.string ly),.sl 8 (pts.map dK),.v (.bool rd.a),aX rd.l,.v (.bool rd.b),aX rd.m]] (¬(kd=1∧pts.length=2∨kd=2∧pts.length=3)) (.tup [.c (.sl 0 []),.bool false]):=⟨λhp=>by
 refine afh Tryz.func26 rfl ?_
 all_goals (repeat' ((try (conv=>whnf));first
  |refine aI ?_
  |refine ak ?_ ?_
  |refine fO ?_ (λ_=>?_) (λ_=>?_)
  |(with_reducible refine aO ?_)
  |(with_reducible refine aT ?_)
  |(with_reducible refine au (λ_=>?_) (λ_=>?_))
  |(with_reducible refine dn (λ_=>?_) (λ_=>?_))
  |refine OnB.mk (λ_=>?_) (λ_=>?_)
  |refine bH ?_ ?_
  |refine Drw.mk (by kernel_rfl) ?_
  |refine iD ?_ ?_
  |refine iV ?_ ?_
  |(with_reducible refine dH ?_ ?_)
  |(with_reducible refine dA ?_)
  |(with_reducible refine dN ?_)
  |refine aP qO ?_ ?_
  |refine Ends.mk ?_))
 all_goals (try refine Pr.mk ?_)
 all_goals (try simp only [List.length_map,Int.toNat_natCast] at *)
 all_goals first
  |rfl
  |(exfalso;omega)
  |omega
  |skip⟩
def UD:Tab:=(25,.row 2 [(0,1,false),(1,1,false)] [.v (.slice none 0 0),.v (.slice none 0 0)]) :: (2000000000,.flag) :: aan
theorem Dc:dG Tryz.prog UD=true:=by kernel_rfl
def Yi:Go.Shelf.Ren:=⟨λn=>if n=41 then 53 else n,λn=>if n=22 then 22 else if n=23 then 89 else n,id⟩
theorem YL:Go.Proofs.SlLaysE0.n41 Tryz.prog Yi where
 mixed:=eY
 f41:=⟨ "slices.Clone[[]swarf/api.LayerDef,swarf/api.LayerDef]",by decide,Eq.trans Tryz.func53 (congrArg some (Eq.refl _))⟩
 t4:=Tryz.underlying4
 a4:=Tryz.isAgg4
 z4:=Tryz.sizeOf4
 v4:=Tryz.zeroValue4
 t22:=Tryz.underlying22
 a22:=Tryz.isAgg22
 z22:=Tryz.sizeOf22
 v22:=Tryz.zeroValue22
theorem UM:∃i0,Tryz.prog.info? 89=some i0∧i0.zero=some (.agg #[.string ByteArray.empty,.int .i64 0,.int .i64 0])∧i0.size=3∧i0.bytes=32:=info_parts (by kernel_rfl)
instance aeI(es:List (List Cell)):DenI Tryz.prog 53 [.c (.sl 3 es)] (es.length≤1000000) (.c (.sl 3 es)):=⟨λhp=>by
 obtain ⟨i0,h1,h2,h3,h4⟩:=UM
 exact Nz YL (by kernel_rfl) i0 _ h1 h2 h3 (by omega) rfl (by decide) Tryz.sizeOf89 hp⟩
theorem VU(es:List Ent):(es.map nT).map oM=es.map dD:=by
 rw [List.map_map];exact List.map_congr_left λe _=>XM e
instance (priority:=2000) Y5(ls:List LayD)(es:List Ent):DenI Tryz.prog 20 [.agg [(.sl 3 (ls.map iP)),.sl 7 (es.map dD)]] (ls.length≤1000∧es.length≤1000∧(∀l∈ls,l.name.size≤1000)∧∀e∈es,Ey (nT e)) (.int .i64 (rH ls (es.map nT))):=⟨λ⟨h1,h2,h3,h4⟩=>by
 have h:=(ZP ls (es.map nT)).den ⟨h1,by rw [List.length_map];exact h2,h3,λe he=>by obtain ⟨x,hx,rfl⟩:=List.mem_map.1 he;exact h4 x hx⟩;rw [VU] at h
 exact h⟩
set_option maxHeartbeats 16000000 in
theorem Ui(ls:List LayD)(es:List Ent)(tol:Rat)(h1:ls.length≤1000)(h2:(∀l∈ls,l.name.size≤1000))(h3:es.length≤12)(h4:∀e∈es,okV e)(h5:∀e∈es,Ey (nT e))(h6n:rz tol≤12)(h7:¬tol<0)(h8:rH ls (es.map nT)=0):
 Den Tryz.prog 13 [.agg [(.sl 3 (ls.map iP)),.sl 7 (es.map dD)],R tol] (.tup [.agg [(.sl 3 (ls.map iP)),.sl 7 ((bT (tol*tol) es).es.map dD)],.c (.sl 19 ((bT (tol*tol) es).cs.map vJ)),.int .i64 0]):=by
 haveI i_v:DenI Tryz.prog 20 [.agg [(.sl 3 (ls.map iP)),.sl 7 (es.map dD)]] (ls.length≤1000∧es.length≤1000∧(∀l∈ls,l.name.size≤1000)∧∀e∈es,Ey (nT e)) (.int .i64 0):=⟨λhp=>by have:=(Y5 ls es).den hp;rwa [h8] at this⟩
 have hz1:(dB (tol*tol) 0 [] es).es.zipIdx.length≤12:=by have:=Jd tol es;unfold jZ at this;omega
 have hz2:∀x∈(dB (tol*tol) 0 [] es).es.zipIdx,okV x.1:=V7 (tol:=tol) h4;have hk1:=Nat.le_trans (Hy tol es) h3;have hk2:=V8 (tol:=tol) h4;have hl1:=Nat.le_trans (NV tol es) h3;have hl2:=aae (tol:=tol) h4;have hr:=Lc (tol:=tol) h4;have hr1:(dB (tol*tol) 0 [] es).cs.length≤24:=by have:=(hr 0).1;omega
 have hr2:(pF (dB (tol*tol) 0 [] es).es.zipIdx).length≤12:=by have:=(hr 0).2.1;unfold jZ at this;omega
 have hr3:=wZ (jL tol es) (jL tol es).length (Nat.le_refl _);rw [Ld] at hr3;refine Den.of ⟨by kernel_rfl,λw X vs ho hX hl hR=>?_⟩ rfl
 haveI:WOk Tryz.prog w:=⟨ho⟩
 refine enter Tryz.func13 rfl rfl (by rw [hl];rfl) λa hF=>?_
 have hc:=uK (N:=90) hX hl hR hF;refine QT (τ:=UD) Dc eY 9 _ (QA:=λz e b=>z=.normal∧SubE [(4,.ptr 4 0),(9,.gs 2000030 ((Ed tol es (jK tol es).length).map vJ).length),(11,.gs 100 ((jL tol es).map jm).length),(14,.ptr 14 0)] e∧SubB [(4,.var [.v (.slice none 0 0),.v (.slice none 0 0)]),(14,.var [(.sl 3 (ls.map iP)),.v (.slice none 0 0)]),(2000030,.grow 47 19 ((Ed tol es (jK tol es).length).map vJ)),(100,.grow 86 8 ((jL tol es).map jm))] b) (by kernel_rfl) ?_ hc (λe b a w hq hc2=>?_) (λx e b a w hx hq hc=>absurd hq.1 hx)
 case refine_1 =>
  clear hc hF hR hl hX
  all_goals (repeat' ((try (conv=>whnf));first
   |refine aI ?_
   |refine ak ?_ ?_
   |(with_reducible refine au (λ_=>?_) (λ_=>?_))
   |(with_reducible refine dn (λ_=>?_) (λ_=>?_))
   |refine bH ?_ ?_))
  all_goals (try refine Pr.mk ?_)
  all_goals (try simp only [List.length_map,Int.toNat_natCast] at *)
  all_goals first
   |((conv=>whnf);refine Sw.Loop.ghost 11 100 86 8 ?_ rfl rfl rfl (by decide);refine Sw.Loop.inv (α:=Nat) (λx=>[(2,.ptr 2 0),(4,.ptr 4 0),(8,.c (.sl 8 ((jK tol es).map jm))),(42,.c (.sl 1 ((dW ((jK tol es).map (·.1))).map bC))),(43,.int .i64 ((jK tol es).length:Nat)),(44,.int .i64 (x:Nat)),(9,.gs 2000030 ((Ed tol es x).map vJ).length),(11,.gs 100 ((GZ (jK tol es) x).map jm).length)]) (λx=>[(2,.var [(.sl 3 (ls.map iP)),.sl 7 (es.map dD)]),(4,.var [.v (.slice none 0 0),.v (.slice none 0 0)]),(2000030,.grow 47 19 ((Ed tol es x).map vJ)),(100,.grow 86 8 ((GZ (jK tol es) x).map jm))]) (λx=>x≤(jK tol es).length) (λx=>(jK tol es).length-x) 0 ?_ ?_ ?_ (λx hx=>?_))
   |skip
  all_goals (repeat' ((try (conv=>whnf));first
   |refine ak ?_ ?_
   |(with_reducible refine au (λ_=>?_) (λ_=>?_))
   |refine OnB.mk (λ_=>?_) (λ_=>?_)
   |refine bH ?_ ?_
   |refine aP N0 ?_ ?_
   |refine aP false ?_ ?_))
  all_goals (try refine Pr.mk ?_)
  all_goals (try simp only [List.length_map,Int.toNat_natCast] at *)
  all_goals (try simp only [gu] at *)
  all_goals first
   |(exfalso;rename ¬True=>h;exact h trivial)
   |(exfalso;rename tol<0=>hx;exact h7 hx)
   |((with_reducible show (_:Nat)=_);rfl)
   |omega
   |exact ⟨h6n,h3,λe he=>(h4 e he).2⟩
   |exact ⟨h1,by omega,h2,h5⟩
   |exact ⟨hz1,hz2⟩
   |exact ⟨hk1,hk2⟩
   |((with_reducible show (_:Nat)≤_);have hrx:=(hr x).2.2;have hlx:=(Dq (jK tol es) x).1;simp only [List.length_append,List.length_map,List.length_cons,List.length_nil];omega)
   |((with_reducible show (_:Nat)≤_);simp only [List.length_append,List.length_map,List.length_cons,List.length_nil];omega)
   |((with_reducible show SubE _ _);exact ⟨rfl,rfl,rfl,rfl,(by show some (AV.int .i64 _)=some (AV.int .i64 _);rw [show (dW (List.map (λx=>x.fst) (rD (dB (tol*tol) 0 [] es).es.zipIdx))).length=(jK tol es).length from by rw [iW,List.length_map];rfl]),rfl,(by show some (AV.gs _ _)=some (AV.gs _ _);simp only [WB,List.length_append,List.length_map,List.length_cons,List.length_nil];rfl),rfl,trivial⟩)
   |(have hkr:(dW (List.map (λx=>x.fst) (jK tol es))).length=(jK tol es).length:=(by rw [iW,List.length_map]);omega)
   |((with_reducible show SubB _ _);exact ⟨rfl,rfl,(by show some _=some _;simp only [WB,List.map_append,List.map_cons,List.map_nil,List.append_nil];rfl),rfl,trivial⟩)
   |(obtain ⟨h9,h10⟩:=aa4 (tol:=tol) (es:=es) (x:=x) (by omega) (by assumption);(conv=>whnf);exact ⟨x+1,⟨⟨rfl,rfl,rfl,rfl,rfl,bM (by omega),(by (simp only [h9,h10,List.map_append,List.map_cons,List.map_nil,List.append_nil,List.length_append,List.length_map,List.length_cons,List.length_nil]);(first|done|rfl)),(by (simp only [h9,h10,List.map_append,List.map_cons,List.map_nil,List.append_nil,List.length_append,List.length_map,List.length_cons,List.length_nil]);(first|done|rfl)),trivial⟩,⟨rfl,rfl,(by (simp only [h9,h10,List.map_append,List.map_cons,List.map_nil,List.append_nil]);(first|done|rfl)),(by (simp only [h9,h10,List.map_append,List.map_cons,List.map_nil,List.append_nil]);(first|done|rfl)),trivial⟩,by omega,(by show (jK tol es).length-(x+1)<(jK tol es).length-x;omega)⟩⟩)
   |(obtain ⟨h9,h10⟩:=abA (tol:=tol) (es:=es) (x:=x) (by omega) (by assumption);(conv=>whnf);exact ⟨x+1,⟨⟨rfl,rfl,rfl,rfl,rfl,bM (by omega),(by (simp only [h9,h10,List.map_append,List.map_cons,List.map_nil,List.append_nil,List.length_append,List.length_map,List.length_cons,List.length_nil]);(first|done|rfl)),(by (simp only [h9,h10,List.map_append,List.map_cons,List.map_nil,List.append_nil,List.length_append,List.length_map,List.length_cons,List.length_nil]);(first|done|rfl)),trivial⟩,⟨rfl,rfl,(by (simp only [h9,h10,List.map_append,List.map_cons,List.map_nil,List.append_nil]);(first|done|rfl)),(by (simp only [h9,h10,List.map_append,List.map_cons,List.map_nil,List.append_nil]);(first|done|rfl)),trivial⟩,by omega,(by show (jK tol es).length-(x+1)<(jK tol es).length-x;omega)⟩⟩)
   |(have hxx:x=(jK tol es).length:=(by omega);subst hxx;(conv=>whnf);refine ⟨rfl,⟨rfl,rfl,(by (try rw [BL]);rfl),rfl,trivial⟩,⟨rfl,rfl,rfl,(by (try rw [BL]);rfl),trivial⟩⟩)
 clear hc;obtain ⟨_,he,hb⟩:=hq;have hc:=hc2.sub he hb;clear he hb hc2 hF hR hl hX;replace hc:=hc.ghostF (i:=200) (j:=14) (T:=55) (s:=7) (k:=1) rfl rfl rfl rfl (by decide) rfl;refine jk (τ:=UD) Dc eY _ (QA:=U4 UD _ [none,none,none] (.tup [.agg [(.sl 3 (ls.map iP)),.sl 7 ((bT (tol*tol) es).es.map dD)],.c (.sl 19 ((bT (tol*tol) es).cs.map vJ)),.int .i64 0])) (by kernel_rfl) ?_ hc (λx e b a w' hx hc'=>KJ Dc hx hc');clear hc ho
 all_goals (repeat' ((try (conv=>whnf));first
  |refine bH ?_ ?_))
 all_goals (try refine Pr.mk ?_)
 all_goals (try simp only [List.length_map,Int.toNat_natCast] at *)
 all_goals first
  |((conv=>whnf);refine Sw.Loop.inv (α:=Nat) (λx=>[(4,.ptr 4 0),(9,.gs 2000030 ((Ed tol es (jK tol es).length).map vJ).length),(11,.gs 100 ((jL tol es).map jm).length),(14,.ptr 14 0),(71,.gs 100 ((jL tol es).map jm).length),(72,.int .i64 ((jL tol es).length:Nat)),(73,.int .i64 (x:Nat))]) (λx=>[(200,.grow 55 7 ((((jL tol es).take x).map (·.1)).map dD)),(14,.varo [(.sl 3 (ls.map iP)),.ob 200 ((((jL tol es).take x).map (·.1)).map dD).length]),(4,.var [.v (.slice none 0 0),.v (.slice none 0 0)]),(2000030,.grow 47 19 ((Ed tol es (jK tol es).length).map vJ)),(100,.grow 86 8 ((jL tol es).map jm))]) (λx=>x≤(jL tol es).length) (λx=>(jL tol es).length-x) 0 ?_ ?_ ?_ (λx hx=>?_))
 all_goals (repeat' ((try (conv=>whnf));first
  |refine ak ?_ ?_
  |(with_reducible refine au (λ_=>?_) (λ_=>?_))
  |refine bH ?_ ?_
  |refine Drw.mk (by kernel_rfl) ?_
  |refine aP N0 ?_ ?_
  |refine Ends.mk ?_))
 all_goals (try refine Pr.mk ?_)
 all_goals (try simp only [List.length_map,Int.toNat_natCast] at *)
 all_goals first
  |((with_reducible show (_:Nat)=_);rfl)
  |omega
  |exact ⟨hl1,λx hx=>(hl2 x hx).2⟩
  |((with_reducible show (_:Nat)≤_);have hrx:=(hr (jK tol es).length).2.2;simp only [List.length_append,List.length_map,List.length_cons,List.length_nil,List.length_take];omega)
  |((with_reducible show SubE _ _);exact ⟨rfl,rfl,rfl,rfl,rfl,rfl,rfl,trivial⟩)
  |((with_reducible show SubB _ _);exact ⟨rfl,rfl,rfl,rfl,rfl,trivial⟩)
  |((with_reducible show aA _=_);have hxx:x=(jL tol es).length:=(by omega);subst hxx;rw [List.take_length,(Ii tol es).1,(Ii tol es).2,List.map_append];rfl)
  |(have hm:=LD (l:=(jL tol es)) (x:=x) (by omega);have hn:(List.take (x+1) (jL tol es)).length=(List.take x (jL tol es)).length+(0+1):=(by simp only [List.length_take];omega);(conv=>whnf);exact ⟨x+1,⟨⟨rfl,rfl,rfl,rfl,rfl,rfl,bM (by omega),trivial⟩,⟨(by (simp only [hm,List.map_append,List.map_cons,List.map_nil,List.append_nil]);(first|done|rfl)),(by (simp only [hm,hn,List.map_append,List.map_cons,List.map_nil,List.append_nil,List.length_append,List.length_map,List.length_cons,List.length_nil]);(first|done|rfl)),rfl,rfl,rfl,trivial⟩,by omega,(by show (jL tol es).length-(x+1)<(jL tol es).length-x;omega)⟩⟩)
instance Qo(ls:List LayD)(es:List Ent)(tol:Rat):DenI Tryz.prog 13 [.agg [(.sl 3 (ls.map iP)),.sl 7 (es.map dD)],R tol] (ls.length≤1000∧(∀l∈ls,l.name.size≤1000)∧es.length≤12∧(∀e∈es,okV e)∧(∀e∈es,Ey (nT e))∧rz tol≤12∧¬tol<0∧rH ls (es.map nT)=0) (.tup [.agg [(.sl 3 (ls.map iP)),.sl 7 ((bT (tol*tol) es).es.map dD)],.c (.sl 19 ((bT (tol*tol) es).cs.map vJ)),.int .i64 0]):=⟨λ⟨h1,h2,h3,h4,h5,h6,h7,h8⟩=>Ui ls es tol h1 h2 h3 h4 h5 h6 h7 h8⟩
instance aen(kd en fi:Int)(b1 b2 b3 b4 b5 b6 b7 b8:Bool)(l1 l2 l3 l4 l5 l6 l7 l8:List (List Cell)):DenI Tryz.prog 62 [.agg [.v (.int .i64 kd),.v (.int .i64 en),.v (.int .i64 fi),.v (.bool b1),.sl 1 l1,.v (.bool b2),.sl 1 l2,.v (.bool b3),.sl 1 l3,.v (.bool b4),.sl 1 l4,.v (.bool b5),.sl 1 l5,.v (.bool b6),.sl 1 l6,.v (.bool b7),.sl 1 l7,.v (.bool b8),.sl 1 l8]] (True) (.bool (!decide (kd=4))):=⟨λhp=>by
 refine afh Tryz.func62 rfl ?_
 all_goals (repeat' ((try (conv=>whnf));first
  |refine Ends.mk ?_))
 all_goals first
  |rfl⟩
instance adW(cs:List Chn):DenI Tryz.prog 82 [.c (.sl 19 (cs.map vJ)),.c (.v (.func (.func 62) #[] #[]))] (cs.length≤1000) (.int .i64 (Wh cs)):=⟨λhp=>by
 refine afh Tryz.func82 rfl ?_
 all_goals first
  |((conv=>whnf);refine Sw.Loop.inv (α:=Nat) (λk=>[(0,.c (.sl 19 (cs.map vJ))),(1,.c (.v (.func (.func 62) #[] #[]))),(6,.c (.sl 19 (cs.map vJ))),(7,.int .i64 (cs.length:Nat)),(8,.int .i64 (k:Nat))]) (λk=>[]) (λk=>k≤cs.length∧∀j<k,(cs.getD j C0).kind=4) (λk=>cs.length-k) 0 ?_ ?_ ?_ (λk hk=>?_))
 all_goals (repeat' ((try (conv=>whnf));first
  |(with_reducible refine au (λ_=>?_) (λ_=>?_))
  |refine aP C0 ?_ ?_
  |refine Ends.mk ?_))
 all_goals (try refine Pr.mk ?_)
 all_goals (try simp only [List.length_map,Int.toNat_natCast] at *)
 all_goals (try (with_reducible show VK _ _ _ _;generalize hcc:cs.getD k C0=c;(try rw [hcc]);obtain ⟨kd,en,fi,sr,ds⟩:=c;cases sr<;>cases ds))
 all_goals (repeat' ((try (conv=>whnf));first
  |refine aI ?_
  |(with_reducible refine dn (λ_=>?_) (λ_=>?_))
  |refine Ends.mk ?_))
 all_goals (try simp only [List.length_map,Int.toNat_natCast] at *)
 all_goals first
  |omega
  |trivial
  |exact ⟨Nat.zero_le _,λj hj=>absurd hj (Nat.not_lt_zero _)⟩
  |((conv=>whnf);exact ⟨k+1,⟨⟨rfl,rfl,rfl,rfl,bM (by omega),trivial⟩,trivial,⟨by omega,iI hk.2 (by rw [hcc];dsimp only;omega)⟩,(by show cs.length-(k+1)<cs.length-k;omega)⟩⟩)
  |((with_reducible show aA _=_);rw [YD (x:=k) (by omega) hk.2 (by rw [hcc];dsimp only;omega)];rfl)
  |((with_reducible show aA _=_);have hxx:k=cs.length:=(by omega);subst hxx;rw [aa5 hk.2];rfl)⟩
instance aej(cs:List Chn):DenI Tryz.prog 43 [.c (.sl 19 (cs.map vJ)),.c (.v (.func (.func 62) #[] #[]))] (cs.length≤1000) (.bool (!RG cs)):=⟨λhp=>by
 refine afh Tryz.func43 rfl ?_
 all_goals (repeat' ((try (conv=>whnf));first
  |refine ak ?_ ?_
  |refine Ends.mk ?_))
 all_goals (try refine Pr.mk ?_)
 all_goals first
  |omega
  |exact bE (ZI cs)⟩
instance aav(ls:List LayD)(es:List Ent)(tol:Rat):DenI Tryz.prog 19 [.agg [(.sl 3 (ls.map iP)),.sl 7 (es.map dD)],R tol] (ls.length≤1000∧(∀l∈ls,l.name.size≤1000)∧es.length≤12∧(∀e∈es,okV e)∧(∀e∈es,Ey (nT e))∧rz tol≤12∧¬tol<0∧rH ls (es.map nT)=0) (.bool (RG (bT (tol*tol) es).cs)):=⟨λhp=>by
 have hlen:(bT (tol*tol) es).cs.length≤1000:=Vz hp.2.2.1 hp.2.2.2.1
 all_goals refine afh Tryz.func19 rfl ?_
 all_goals (repeat' ((try (conv=>whnf));first
  |refine ak ?_ ?_
  |(with_reducible refine aO ?_)
  |(with_reducible refine aT ?_)
  |(with_reducible refine au (λ_=>?_) (λ_=>?_))
  |refine Ends.mk ?_))
 all_goals (try refine Pr.mk ?_)
 all_goals first
  |exact hp
  |exact hlen
  |(refine bE ?_;rw [Bool.not_not])
  |(exfalso;rename ¬0=0=>h;exact h rfl)⟩
instance adp(x y u v:Int):DenI Tryz.prog 47 [.int .i64 x,.int .i64 y,.int .i64 u,.int .i64 v] (kE x∧kE y∧kE u∧kE v) (.agg (dD (Gm x y u v))):=⟨λhp=>by
 obtain ⟨h1,h2,h3,h4⟩:=hp;unfold kE at *
 all_goals refine afh Tryz.func47 rfl ?_
 all_goals (repeat' ((try (conv=>whnf));first
  |refine ak ?_ ?_
  |refine Ends.mk ?_))
 all_goals (try refine Pr.mk ?_)
 all_goals first
  |exact ⟨h1,h2⟩
  |exact ⟨h3,h4⟩
  |rfl⟩
instance aeA(es:List (List Cell)):DenI Tryz.prog 46 [.c (.sl 7 es)] (True) (.agg [.sl 3 (aLL.map iP),.sl 7 es]):=⟨λhp=>by
 refine afh Tryz.func46 rfl ?_
 all_goals (repeat' ((try (conv=>whnf));first
  |refine Ends.mk ?_))
 all_goals first
  |rfl⟩
instance adZ:DenI Tryz.prog 11 [] (True) (.bool true):=⟨λhp=>by
 haveI r1:DenI Tryz.prog 13 [.agg [.sl 3 (aLL.map iP),.sl 7 [dD (Gm 0 0 1000 0),dD (Gm 1003 0 0 1000),dD (Gm 0 1004 0 0)]],R ((5:Int):Rat)] True (.tup [.agg [.sl 3 (aLL.map iP),.sl 7 ((bT (((5:Int):Rat)*((5:Int):Rat)) aw1).es.map dD)],.c (.sl 19 ((bT (((5:Int):Rat)*((5:Int):Rat)) aw1).cs.map vJ)),.int .i64 0]):=⟨λ_=>(Qo aLL aw1 ((5:Int):Rat)).den ⟨by decide,by decide,by decide,vw.1,vw.2,(EG (by decide) (by decide)).1,(EG (by decide) (by decide)).2,QV⟩⟩
 haveI r2:DenI Tryz.prog 13 [.agg [.sl 3 (aLL.map iP),.sl 7 [dD (Gm 0 0 1000 0),dD (Gm 1003 0 0 1000),dD (Gm 0 1004 0 0)]],R ((3:Int):Rat)] True (.tup [.agg [.sl 3 (aLL.map iP),.sl 7 ((bT (((3:Int):Rat)*((3:Int):Rat)) aw1).es.map dD)],.c (.sl 19 ((bT (((3:Int):Rat)*((3:Int):Rat)) aw1).cs.map vJ)),.int .i64 0]):=⟨λ_=>(Qo aLL aw1 ((3:Int):Rat)).den ⟨by decide,by decide,by decide,vw.1,vw.2,(EG (by decide) (by decide)).1,(EG (by decide) (by decide)).2,QV⟩⟩
 haveI r3:DenI Tryz.prog 13 [.agg [.sl 3 (aLL.map iP),.sl 7 [dD (Gm 0 0 2 0)]],R ((5:Int):Rat)] True (.tup [.agg [.sl 3 (aLL.map iP),.sl 7 ((bT (((5:Int):Rat)*((5:Int):Rat)) aw2).es.map dD)],.c (.sl 19 ((bT (((5:Int):Rat)*((5:Int):Rat)) aw2).cs.map vJ)),.int .i64 0]):=⟨λ_=>(Qo aLL aw2 ((5:Int):Rat)).den ⟨by decide,by decide,by decide,PL.1,PL.2,(EG (by decide) (by decide)).1,(EG (by decide) (by decide)).2,abj⟩⟩
 haveI r4:DenI Tryz.prog 19 [.agg [.sl 3 (aLL.map iP),.sl 7 [dD (Gm 0 0 1000 0),dD (Gm 1003 0 0 1000),dD (Gm 0 1004 0 0)]],R ((5:Int):Rat)] True (.bool false):=⟨λ_=>by have h:=(aav aLL aw1 ((5:Int):Rat)).den ⟨by decide,by decide,by decide,vw.1,vw.2,(EG (by decide) (by decide)).1,(EG (by decide) (by decide)).2,QV⟩;rw [Zt] at h;exact h⟩
 obtain ⟨a1,b1⟩:=RU aaz;obtain ⟨a2,b2⟩:=RU aa2;obtain ⟨a3,b3⟩:=RU aaK;have a4:=Zn;have c10:=b1 0 (by decide);have c11:=b1 1 (by decide);have c21:=b2 1 (by decide);have c22:=b2 2 (by decide);have c31:=b3 1 (by decide);generalize (bT (((5:Int):Rat)*((5:Int):Rat)) aw1).cs=C1 at *;generalize (bT (((3:Int):Rat)*((3:Int):Rat)) aw1).cs=C2 at *;generalize (bT (((5:Int):Rat)*((5:Int):Rat)) aw2).cs=C3 at *;generalize (bT (((5:Int):Rat)*((5:Int):Rat)) aw2).es=E3 at *;generalize (bT (((5:Int):Rat)*((5:Int):Rat)) aw1).es=E1 at *;generalize (bT (((3:Int):Rat)*((3:Int):Rat)) aw1).es=E2 at *;have d10:(C1.getD 0 C0).kind=1∧(C1.getD 0 C0).ent=1:=c10;have d11:(C1.getD 1 C0).kind=1∧(C1.getD 1 C0).ent=2:=c11;have d21:(C2.getD 1 C0).kind=4∧(C2.getD 1 C0).ent=1:=c21;have d22:(C2.getD 2 C0).kind=4∧(C2.getD 2 C0).ent=2:=c22;have d31:(C3.getD 1 C0).kind=2∧(C3.getD 1 C0).ent=0:=c31;clear b1 b2 b3 c10 c11 c21 c22 c31
 all_goals refine afh Tryz.func11 rfl ?_
 all_goals (repeat' ((try (conv=>whnf));first
  |refine aI ?_
  |refine ak ?_ ?_
  |(with_reducible refine aO ?_)
  |(with_reducible refine aT ?_)
  |(with_reducible refine au (λ_=>?_) (λ_=>?_))
  |(with_reducible refine dn (λ_=>?_) (λ_=>?_))
  |refine Drw.mk (by kernel_rfl) ?_
  |refine aP C0 ?_ ?_
  |refine Ends.mk ?_))
 all_goals (try refine Pr.mk ?_)
 all_goals (try simp only [List.length_map,a1,a2,a3,a4,List.length_cons,List.length_nil] at *)
 all_goals (try simp only [Int.toNat_zero,show Int.toNat 1=1 from rfl,show Int.toNat 2=2 from rfl] at *)
 all_goals first
  |trivial
  |omega⟩
end Go.Proofs.YtmniihkenijjpaaGreatDoor
