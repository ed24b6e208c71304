/-
  Rules of the abstract run, plain laws, and what functions answer, for the law RepairTwice.
  Conditions: none.
-/
import Derived.Test.YtmniihkenijjpaaGreatDoorP16
import Derived.Shelf.LaysM
import Derived.Shelf.Strconv.Itoa1
import Derived.Shelf.Strconv.Itoa2
import Derived.Lib.Walk
import Derived.Lib.ItoaMem
import Derived.Lib.ItoaLen
import Derived.Lib.AppendIntMem
import Derived.WalkKit
import Derived.BigCall
import Derived.BigGuard
import Derived.Shelf.SlicesE.Clone
set_option linter.all false
namespace Go.Proofs.YtmniihkenijjpaaGreatDoor
open Go Go.RowKit Go.Sw Go.Shelf
set_option maxRecDepth 100000
set_option maxHeartbeats 8000000
set_option synthInstance.maxSize 4000
set_option synthInstance.maxHeartbeats 400000
instance aha(a:Rat):DenI Tryz.prog 182 [R a] (rz a≤1000) (R (a*F6)):=⟨λhp=>by
 have i_a:RzB a 1000:=⟨hp⟩
 all_goals refine ahm Tryz.func182 rfl ?_
 all_goals (repeat' ((try (conv=>whnf));first
  |refine ak ?_ ?_
  |refine Drw.mk (by kernel_rfl) ?_
  |refine Ends.mk ?_))
 all_goals (try refine Pr.mk ?_)
 all_goals first
  |(have z1:=Nv;exact ⟨by omega,Nat.le_trans z1 (by decide)⟩)
  |omega
  |rfl⟩
instance Zc(a:Rat):DenI Tryz.prog 135 [R a] (rz a≤12) (.bool (JC a)):=⟨λhp=>by
 have z1:=abk;have z2:=adG hp;have hv:=Gz a
 all_goals refine ahm Tryz.func135 rfl ?_
 all_goals (repeat' ((try (conv=>whnf));first
  |refine ak ?_ ?_
  |(with_reducible refine aK ?_)
  |(with_reducible refine aO ?_)
  |(with_reducible refine au (λ_=>?_) (λ_=>?_))
  |refine OnB.mk (λ_=>?_) (λ_=>?_)
  |refine Drw.mk (by kernel_rfl) ?_
  |refine Ends.mk ?_))
 all_goals (try refine Pr.mk ?_)
 all_goals (try simp only [ig] at *)
 all_goals first
  |(exfalso;rename (!iZ _ _ _ _)=true=>h;rw [Gz] at h;cases h)
  |omega
  |(refine ⟨?_, ?_⟩<;>first|(rw [oW];omega)|omega)
  |(have e1:(lim a.num.natAbs).length≤rz a:=lK a;have e2:(lim (a.den:Int).natAbs).length≤rz a:=nN a;omega)
  |(refine bE ?_;unfold JC;simp only [*,not_true,not_false_iff,decide_true,decide_false,Bool.true_and,Bool.false_and,Bool.and_false];done)⟩
instance (priority:=50) Zo(r:Rq):DenI Tryz.prog 135 [.agg (Qz r)] (Ih r∧vR r=false) (.bool false):=⟨λhp=>by
 obtain ⟨hp1,hp2⟩:=hp;unfold vR at hp2;obtain ⟨hp3,hp4⟩:=hp1
 all_goals refine ahm Tryz.func135 rfl ?_
 all_goals (repeat' ((try (conv=>whnf));first
  |refine aH ?_
  |refine ak ?_ ?_
  |refine kF ?_ (λ_=>?_) (λ_=>?_)
  |(with_reducible refine aK ?_)
  |(with_reducible refine aO ?_)
  |(with_reducible refine au (λ_=>?_) (λ_=>?_))
  |(with_reducible refine bW (λ_=>?_) (λ_=>?_))
  |refine OnB.mk (λ_=>?_) (λ_=>?_)
  |refine bT ?_ ?_
  |refine Drw.mk (by kernel_rfl) ?_
  |refine gV ?_ ?_
  |refine iy ?_ ?_
  |(with_reducible refine dB ?_ ?_)
  |(with_reducible refine dA ?_)
  |(with_reducible refine dM ?_)
  |refine Ends.mk ?_))
 all_goals (try refine Pr.mk ?_)
 all_goals first
  |omega
  |rfl
  |(exfalso;rename (!iZ _ _ _ _)=false=>h;rw [hp2] at h;cases h)
  |exact ⟨by omega,by omega⟩
  |skip⟩
instance (priority:=2000) x_len(r:Rq):DenI Tryz.prog 135 [.agg (Qz r)] (Ih r) (.bool (jI r)):=⟨λhp=>by
 cases v:vR r with
 |false =>
  have h:=(Zo r).den ⟨hp,v⟩;have e:jI r=false:=by unfold jI;rw [v];rfl
  rw [e];exact h
 |true =>
  have e:=zK v;have e2:jI r=JC (qR r):=by unfold jI;rw [v];rfl
  have hz:rz (qR r)≤12:=Fb (e ▸ hp);have h:=(Zc (qR r)).den hz;rw [e2];generalize qR r=q at e h;subst e
  exact h⟩
instance (priority:=2000) agz(r:Rq):DenI Tryz.prog 49 [.agg (Qz r)] (vR r=true) (.int .i64 (aZ (qR r))):=⟨λv=>by
 have e:=zK v;have h:=(inferInstance:DenI Tryz.prog 49 [R (qR r)] _ (.int .i64 (aZ (qR r)))).den trivial;generalize qR r=q at e h ⊢;subst e
 exact h⟩
instance (priority:=50) aaR(ly:ByteArray)(pts:List (Rq × Rq))(rd:Rq):DenI Tryz.prog 102 [.agg [.v (.int .i64 1),.v (.string ly),.sl 8 (pts.map sV),.v (.bool rd.a),bG rd.l,.v (.bool rd.b),bG rd.m]] (sN ⟨1,ly,pts,rd⟩) (.bool (oq ⟨1,ly,pts,rd⟩)):=⟨λhp=>by
 have hpl:pts.length≤5:=hp.2.2.1;have hpr:Ih rd:=hp.2.1
 all_goals refine ahm Tryz.func102 rfl ?_
 all_goals (repeat' ((try (conv=>whnf));first
  |refine aH ?_
  |refine ak ?_ ?_
  |refine kF ?_ (λ_=>?_) (λ_=>?_)
  |(with_reducible refine aK ?_)
  |(with_reducible refine aO ?_)
  |(with_reducible refine au (λ_=>?_) (λ_=>?_))
  |(with_reducible refine bW (λ_=>?_) (λ_=>?_))
  |refine OnB.mk (λ_=>?_) (λ_=>?_)
  |refine bT ?_ ?_
  |refine Drw.mk (by kernel_rfl) ?_
  |refine gV ?_ ?_
  |refine iy ?_ ?_
  |(with_reducible refine dB ?_ ?_)
  |(with_reducible refine dA ?_)
  |(with_reducible refine dM ?_)
  |refine aS vY ?_ ?_
  |refine Ends.mk ?_))
 all_goals (try refine Pr.mk ?_)
 all_goals first
  |((conv=>whnf);refine Sw.Loop.inv (α:=Nat) (λx=>[(1,.ptr 1 0),(25,.c (.sl 8 (pts.map sV))),(26,.int .i64 (pts.length:Nat)),(27,.int .i64 (x:Nat))]) (λx=>[(1,.var [.v (.int .i64 1),.v (.string ly),.sl 8 (pts.map sV),.v (.bool rd.a),bG rd.l,.v (.bool rd.b),bG rd.m])]) (λx=>x≤pts.length∧∀j<x,(jI (pts.getD j vY).1 && jI (pts.getD j vY).2)=true) (λx=>pts.length-x) 0 ?_ ?_ ?_ (λx hx=>?_))
  |skip
 all_goals (repeat' ((try (conv=>whnf));first
  |refine aH ?_
  |refine ak ?_ ?_
  |refine kF ?_ (λ_=>?_) (λ_=>?_)
  |(with_reducible refine aK ?_)
  |(with_reducible refine aO ?_)
  |(with_reducible refine au (λ_=>?_) (λ_=>?_))
  |(with_reducible refine bW (λ_=>?_) (λ_=>?_))
  |refine OnB.mk (λ_=>?_) (λ_=>?_)
  |refine bT ?_ ?_
  |refine Drw.mk (by kernel_rfl) ?_
  |refine gV ?_ ?_
  |refine iy ?_ ?_
  |(with_reducible refine dB ?_ ?_)
  |(with_reducible refine dA ?_)
  |(with_reducible refine dM ?_)
  |refine aS vY ?_ ?_
  |refine Ends.mk ?_))
 all_goals (try refine Pr.mk ?_)
 all_goals (try simp only [List.length_map,Int.toNat_natCast] at *)
 all_goals (try simp only [ig] at *)
 all_goals first
  |(exfalso;omega)
  |omega
  |trivial
  |exact ⟨Nat.zero_le _,λj hj=>absurd hj (Nat.not_lt_zero _)⟩
  |exact (xA hp (by show _<pts.length;omega)).1
  |exact (xA hp (by show _<pts.length;omega)).2
  |exact hpr
  |exact Jm (by assumption)
  |exact ⟨rfl,rfl,by simp only [List.length_map];rfl,rfl,trivial⟩
  |((with_reducible show aG _=_);refine bE ?_;rw [zq (by simp only [];omega)];done)
  |((with_reducible show aG _=_);refine bE ?_;rw [FQ (x:=x) (by show x<pts.length;omega) (by simp_all;done)];done)
  |((with_reducible show aG _=_);refine bE ?_;have hxx:x=pts.length:=(by omega);subst hxx;rw [zF (e:=⟨1,ly,pts,rd⟩) (.inl ⟨rfl,by show pts.length=2;omega⟩) hx.2];simp_all;done)
  |((conv=>whnf);exact ⟨x+1,⟨⟨rfl,rfl,rfl,bM (by omega),trivial⟩,⟨rfl,trivial⟩,⟨by omega,gY hx.2 (by simp_all;done)⟩,(by show pts.length-(x+1)<pts.length-x;omega)⟩⟩)
  |skip⟩
instance (priority:=50) aa1(ly:ByteArray)(pts:List (Rq × Rq))(rd:Rq):DenI Tryz.prog 102 [.agg [.v (.int .i64 2),.v (.string ly),.sl 8 (pts.map sV),.v (.bool rd.a),bG rd.l,.v (.bool rd.b),bG rd.m]] (sN ⟨2,ly,pts,rd⟩) (.bool (oq ⟨2,ly,pts,rd⟩)):=⟨λhp=>by
 have hpl:pts.length≤5:=hp.2.2.1;have hpr:Ih rd:=hp.2.1
 all_goals refine ahm Tryz.func102 rfl ?_
 all_goals (repeat' ((try (conv=>whnf));first
  |refine aH ?_
  |refine ak ?_ ?_
  |refine kF ?_ (λ_=>?_) (λ_=>?_)
  |(with_reducible refine aK ?_)
  |(with_reducible refine aO ?_)
  |(with_reducible refine au (λ_=>?_) (λ_=>?_))
  |(with_reducible refine bW (λ_=>?_) (λ_=>?_))
  |refine OnB.mk (λ_=>?_) (λ_=>?_)
  |refine bT ?_ ?_
  |refine Drw.mk (by kernel_rfl) ?_
  |refine gV ?_ ?_
  |refine iy ?_ ?_
  |(with_reducible refine dB ?_ ?_)
  |(with_reducible refine dA ?_)
  |(with_reducible refine dM ?_)
  |refine aS vY ?_ ?_
  |refine Ends.mk ?_))
 all_goals (try refine Pr.mk ?_)
 all_goals first
  |((conv=>whnf);refine Sw.Loop.inv (α:=Nat) (λx=>[(1,.ptr 1 0),(25,.c (.sl 8 (pts.map sV))),(26,.int .i64 (pts.length:Nat)),(27,.int .i64 (x:Nat))]) (λx=>[(1,.var [.v (.int .i64 2),.v (.string ly),.sl 8 (pts.map sV),.v (.bool rd.a),bG rd.l,.v (.bool rd.b),bG rd.m])]) (λx=>x≤pts.length∧∀j<x,(jI (pts.getD j vY).1 && jI (pts.getD j vY).2)=true) (λx=>pts.length-x) 0 ?_ ?_ ?_ (λx hx=>?_))
  |skip
 all_goals (repeat' ((try (conv=>whnf));first
  |refine aH ?_
  |refine ak ?_ ?_
  |refine kF ?_ (λ_=>?_) (λ_=>?_)
  |(with_reducible refine aK ?_)
  |(with_reducible refine aO ?_)
  |(with_reducible refine au (λ_=>?_) (λ_=>?_))
  |(with_reducible refine bW (λ_=>?_) (λ_=>?_))
  |refine OnB.mk (λ_=>?_) (λ_=>?_)
  |refine bT ?_ ?_
  |refine Drw.mk (by kernel_rfl) ?_
  |refine gV ?_ ?_
  |refine iy ?_ ?_
  |(with_reducible refine dB ?_ ?_)
  |(with_reducible refine dA ?_)
  |(with_reducible refine dM ?_)
  |refine aS vY ?_ ?_
  |refine Ends.mk ?_))
 all_goals (try refine Pr.mk ?_)
 all_goals (try simp only [List.length_map,Int.toNat_natCast] at *)
 all_goals (try simp only [ig] at *)
 all_goals first
  |(exfalso;omega)
  |omega
  |trivial
  |exact ⟨Nat.zero_le _,λj hj=>absurd hj (Nat.not_lt_zero _)⟩
  |exact (xA hp (by show _<pts.length;omega)).1
  |exact (xA hp (by show _<pts.length;omega)).2
  |exact hpr
  |exact Jm (by assumption)
  |exact ⟨rfl,rfl,by simp only [List.length_map];rfl,rfl,trivial⟩
  |((with_reducible show aG _=_);refine bE ?_;rw [zq (by simp only [];omega)];done)
  |((with_reducible show aG _=_);refine bE ?_;rw [FQ (x:=x) (by show x<pts.length;omega) (by simp_all;done)];done)
  |((with_reducible show aG _=_);refine bE ?_;have hxx:x=pts.length:=(by omega);subst hxx;rw [zF (e:=⟨2,ly,pts,rd⟩) (.inr (.inl ⟨rfl,by show pts.length=3;omega⟩)) hx.2];simp_all;done)
  |((conv=>whnf);exact ⟨x+1,⟨⟨rfl,rfl,rfl,bM (by omega),trivial⟩,⟨rfl,trivial⟩,⟨by omega,gY hx.2 (by simp_all;done)⟩,(by show pts.length-(x+1)<pts.length-x;omega)⟩⟩)
  |skip⟩
instance (priority:=50) aaI(ly:ByteArray)(pts:List (Rq × Rq))(rd:Rq):DenI Tryz.prog 102 [.agg [.v (.int .i64 3),.v (.string ly),.sl 8 (pts.map sV),.v (.bool rd.a),bG rd.l,.v (.bool rd.b),bG rd.m]] (sN ⟨3,ly,pts,rd⟩) (.bool (oq ⟨3,ly,pts,rd⟩)):=⟨λhp=>by
 have hpl:pts.length≤5:=hp.2.2.1;have hpr:Ih rd:=hp.2.1
 all_goals refine ahm Tryz.func102 rfl ?_
 all_goals (repeat' ((try (conv=>whnf));first
  |refine aH ?_
  |refine ak ?_ ?_
  |refine kF ?_ (λ_=>?_) (λ_=>?_)
  |(with_reducible refine aK ?_)
  |(with_reducible refine aO ?_)
  |(with_reducible refine au (λ_=>?_) (λ_=>?_))
  |(with_reducible refine bW (λ_=>?_) (λ_=>?_))
  |refine OnB.mk (λ_=>?_) (λ_=>?_)
  |refine bT ?_ ?_
  |refine Drw.mk (by kernel_rfl) ?_
  |refine gV ?_ ?_
  |refine iy ?_ ?_
  |(with_reducible refine dB ?_ ?_)
  |(with_reducible refine dA ?_)
  |(with_reducible refine dM ?_)
  |refine aS vY ?_ ?_
  |refine Ends.mk ?_))
 all_goals (try refine Pr.mk ?_)
 all_goals first
  |((conv=>whnf);refine Sw.Loop.inv (α:=Nat) (λx=>[(1,.ptr 1 0),(25,.c (.sl 8 (pts.map sV))),(26,.int .i64 (pts.length:Nat)),(27,.int .i64 (x:Nat))]) (λx=>[(1,.var [.v (.int .i64 3),.v (.string ly),.sl 8 (pts.map sV),.v (.bool rd.a),bG rd.l,.v (.bool rd.b),bG rd.m])]) (λx=>x≤pts.length∧∀j<x,(jI (pts.getD j vY).1 && jI (pts.getD j vY).2)=true) (λx=>pts.length-x) 0 ?_ ?_ ?_ (λx hx=>?_))
  |skip
 all_goals (repeat' ((try (conv=>whnf));first
  |refine aH ?_
  |refine ak ?_ ?_
  |refine kF ?_ (λ_=>?_) (λ_=>?_)
  |(with_reducible refine aK ?_)
  |(with_reducible refine aO ?_)
  |(with_reducible refine au (λ_=>?_) (λ_=>?_))
  |(with_reducible refine bW (λ_=>?_) (λ_=>?_))
  |refine OnB.mk (λ_=>?_) (λ_=>?_)
  |refine bT ?_ ?_
  |refine Drw.mk (by kernel_rfl) ?_
  |refine gV ?_ ?_
  |refine iy ?_ ?_
  |(with_reducible refine dB ?_ ?_)
  |(with_reducible refine dA ?_)
  |(with_reducible refine dM ?_)
  |refine aS vY ?_ ?_
  |refine Ends.mk ?_))
 all_goals (try refine Pr.mk ?_)
 all_goals (try simp only [List.length_map,Int.toNat_natCast] at *)
 all_goals (try simp only [ig] at *)
 all_goals first
  |(exfalso;omega)
  |omega
  |trivial
  |exact ⟨Nat.zero_le _,λj hj=>absurd hj (Nat.not_lt_zero _)⟩
  |exact (xA hp (by show _<pts.length;omega)).1
  |exact (xA hp (by show _<pts.length;omega)).2
  |exact hpr
  |exact Jm (by assumption)
  |exact ⟨rfl,rfl,by simp only [List.length_map];rfl,rfl,trivial⟩
  |((with_reducible show aG _=_);refine bE ?_;rw [zq (by simp only [];omega)];done)
  |((with_reducible show aG _=_);refine bE ?_;rw [FQ (x:=x) (by show x<pts.length;omega) (by simp_all;done)];done)
  |((with_reducible show aG _=_);refine bE ?_;have hxx:x=pts.length:=(by omega);subst hxx;rw [zF (e:=⟨3,ly,pts,rd⟩) (.inr (.inr ⟨rfl,by show pts.length=1;omega⟩)) hx.2];simp_all;done)
  |((conv=>whnf);exact ⟨x+1,⟨⟨rfl,rfl,rfl,bM (by omega),trivial⟩,⟨rfl,trivial⟩,⟨by omega,gY hx.2 (by simp_all;done)⟩,(by show pts.length-(x+1)<pts.length-x;omega)⟩⟩)
  |skip⟩
instance (priority:=50) aaD(kd:Int)(ly:ByteArray)(pts:List (Rq × Rq))(rd:Rq):DenI Tryz.prog 102 [.agg [.v (.int .i64 kd),.v (.string ly),.sl 8 (pts.map sV),.v (.bool rd.a),bG rd.l,.v (.bool rd.b),bG rd.m]] (kd<1∨3<kd) (.bool (oq ⟨kd,ly,pts,rd⟩)):=⟨λhp=>by
 refine ahm Tryz.func102 rfl ?_
 all_goals (repeat' ((try (conv=>whnf));first
  |refine aH ?_
  |refine ak ?_ ?_
  |refine kF ?_ (λ_=>?_) (λ_=>?_)
  |(with_reducible refine aK ?_)
  |(with_reducible refine aO ?_)
  |(with_reducible refine au (λ_=>?_) (λ_=>?_))
  |(with_reducible refine bW (λ_=>?_) (λ_=>?_))
  |refine OnB.mk (λ_=>?_) (λ_=>?_)
  |refine bT ?_ ?_
  |refine Drw.mk (by kernel_rfl) ?_
  |refine gV ?_ ?_
  |refine iy ?_ ?_
  |(with_reducible refine dB ?_ ?_)
  |(with_reducible refine dA ?_)
  |(with_reducible refine dM ?_)
  |refine Ends.mk ?_))
 all_goals (try refine Pr.mk ?_)
 all_goals first
  |(exfalso;omega)
  |((with_reducible show aG _=_);refine bE ?_;rw [zq (by simp only [];omega)];done)
  |skip⟩
instance (priority:=2000) afY(e:EntR):DenI Tryz.prog 102 [.agg (dh e)] (sN e) (.bool (oq e)):=⟨λhp=>by
 obtain ⟨kd,ly,pts,rd⟩:=e;have hk:(kd<1∨3<kd)∨kd=1∨kd=2∨kd=3:=by omega
 rcases hk with hk|rfl|rfl|rfl
 ·exact (aaD kd ly pts rd).den hk
 ·exact (aaR ly pts rd).den hp
 ·exact (aa1 ly pts rd).den hp
 ·exact (aaI ly pts rd).den hp⟩
instance ahg(ls:List LayD)(es:List EntR)(e:EntR):DenI Tryz.prog 64 [.agg [(.sl 3 (ls.map dw)),.sl 7 (es.map dh)],.agg (dh e)] (ls.length≤1000∧sN e) (.int .i64 (YO ls e)):=⟨λhp=>by
 obtain ⟨hp1,hp2⟩:=hp
 all_goals refine ahm Tryz.func64 rfl ?_
 all_goals (repeat' ((try (conv=>whnf));first
  |refine ak ?_ ?_
  |(with_reducible refine au (λ_=>?_) (λ_=>?_))
  |refine OnB.mk (λ_=>?_) (λ_=>?_)
  |refine Ends.mk ?_))
 all_goals (try refine Pr.mk ?_)
 all_goals first
  |assumption
  |(refine iE ?_;unfold YO;rw [if_pos (by assumption)];done)
  |(refine iE ?_;unfold YO;rw [if_neg (by assumption),if_pos (by simp_all;done)];done)
  |(refine iE ?_;unfold YO;rw [if_neg (by assumption),if_neg (by simp_all;done)];done)⟩
instance aeW(ls:List LayD):DenI Tryz.prog 63 [.c (.sl 3 (ls.map dw))] (0<ls.length∧ls.length≤1000∧(∀l∈ls,l.name.size≤1000)) (.int .i64 (tu ls)):=⟨λhp=>by
 obtain ⟨hp1,hp2,hp3⟩:=hp;have hw:(IntKind.i64.wrap ((ls.length:Int)-1))=((ls.length-1:Nat):Int):=by rw [bV (by omega) (by omega)];omega
 all_goals refine ahm Tryz.func63 rfl ?_
 all_goals (repeat' ((try (conv=>whnf));first
  |refine ak ?_ ?_
  |(with_reducible refine au (λ_=>?_) (λ_=>?_))
  |refine OnB.mk (λ_=>?_) (λ_=>?_)
  |refine aS L0 ?_ ?_
  |refine Ends.mk ?_))
 all_goals (try refine Pr.mk ?_)
 all_goals (try simp only [List.length_map,Int.toNat_natCast] at *)
 all_goals (try simp only [hw,Int.toNat_natCast] at *)
 all_goals first
  |omega
  |(have z:=adq hp3 (ls.length-1);omega)
  |(refine iE ?_;unfold tu;rw [if_pos (by simp_all;done)];done)
  |(refine iE ?_;unfold tu;rw [if_neg (by simp_all;done),if_pos (by assumption)];done)
  |(refine iE ?_;unfold tu;rw [if_neg (by simp_all;done),if_neg (by assumption)];done)⟩
instance (priority:=2000) agd(ls:List LayD)(a b:Nat):DenI Tryz.prog 63 [.c (.sl 3 (((ls.map dw).take b).drop a))] (a=0∧0<b∧b≤ls.length∧ls.length≤1000∧(∀l∈ls,l.name.size≤1000)) (.int .i64 (tu (ls.take b))):=⟨λ⟨h1,h2,h3,h4,h5⟩=>by
 have h:=(aeW (ls.take b)).den ⟨by rw [List.length_take];omega,by rw [List.length_take];omega,λl hl=>h5 l (List.mem_of_mem_take hl)⟩;rw [List.map_take] at h;subst h1
 exact h⟩
instance adT(ls:List LayD)(es:List EntR):DenI Tryz.prog 20 [.agg [(.sl 3 (ls.map dw)),.sl 7 (es.map dh)]] (ls.length≤1000∧es.length≤1000∧(∀l∈ls,l.name.size≤1000)∧∀e∈es,sN e) (.int .i64 (je ls es)):=⟨λhp=>by
 obtain ⟨hp1,hp2,hp3,hp4⟩:=hp
 all_goals refine ahm Tryz.func20 rfl ?_
 all_goals (repeat' ((try (conv=>whnf));first
  |(with_reducible refine aK ?_)
  |(with_reducible refine aO ?_)
  |(with_reducible refine au (λ_=>?_) (λ_=>?_))
  |refine Ends.mk ?_))
 all_goals (try simp only [List.length_map,Int.toNat_natCast] at *)
 all_goals first
  |((conv=>whnf);refine Sw.Loop.inv (α:=Nat) (λx=>[(1,.ptr 1 0),(20,.int .i64 (ls.length:Nat)),(21,.int .i64 (x:Nat))]) (λx=>[(1,.var [(.sl 3 (ls.map dw)),.sl 7 (es.map dh)])]) (λx=>x≤ls.length∧∀j<x,wY ls j=none) (λx=>ls.length-x) 0 ?_ ?_ ?_ (λx hx=>?_))
  |skip
 all_goals (repeat' ((try (conv=>whnf));first
  |refine ak ?_ ?_
  |(with_reducible refine au (λ_=>?_) (λ_=>?_))
  |(with_reducible refine bW (λ_=>?_) (λ_=>?_))
  |refine iy ?_ ?_
  |refine Ends.mk ?_))
 all_goals (try refine Pr.mk ?_)
 all_goals (try simp only [List.length_map,Int.toNat_natCast] at *)
 all_goals first
  |((conv=>whnf);refine Sw.Loop.inv (α:=Nat) (λy=>[(1,.ptr 1 0),(35,.c (.sl 7 (es.map dh))),(36,.int .i64 (es.length:Nat)),(37,.int .i64 (y:Nat))]) (λy=>[(1,.var [(.sl 3 (ls.map dw)),.sl 7 (es.map dh)])]) (λy=>y≤es.length∧∀j<y,uI ls es j=none) (λy=>es.length-y) 0 ?_ ?_ ?_ (λy hy=>?_))
  |skip
 all_goals (repeat' ((try (conv=>whnf));first
  |refine ak ?_ ?_
  |(with_reducible refine au (λ_=>?_) (λ_=>?_))
  |(with_reducible refine bW (λ_=>?_) (λ_=>?_))
  |refine aS uz ?_ ?_
  |refine Ends.mk ?_))
 all_goals (try refine Pr.mk ?_)
 all_goals (try simp only [List.length_map,Int.toNat_natCast] at *)
 all_goals (try simp only [Option.getD_some,Option.getD_none,Int.toNat_natCast,Int.toNat_zero] at *)
 all_goals (try simp (disch:=omega) only [bV] at *)
 all_goals (try (have ht:((x:Int)+1).toNat=x+1:=(by omega);simp only [ht] at *;clear ht))
 all_goals first
  |omega
  |trivial
  |exact ⟨Nat.zero_le _,λj hj=>absurd hj (Nat.not_lt_zero _)⟩
  |(refine ⟨by omega,by omega,by omega,by omega, ?_⟩;intro h;first|exact h|rfl|(cases h))
  |exact ⟨trivial,by omega,by omega,by omega,hp3⟩
  |exact ⟨by omega,YC hp4 (by omega)⟩
  |(refine iE ?_;rw [Yg (by omega)];done)
  |(refine iE ?_;rw [Xq (by omega) (by omega) hx.2 ((TT (by omega)).2 (by assumption))];done)
  |(refine iE ?_;have hxx:x=ls.length:=(by omega);subst hxx;rw [WZ (by omega) hx.2 (by omega) hy.2 (RF.2 (by assumption))];done)
  |(refine iE ?_;have hxx:x=ls.length:=(by omega);subst hxx;have hyy:y=es.length:=(by omega);subst hyy;rw [Ve (by omega) hx.2 hy.2];done)
  |((conv=>whnf);exact ⟨y+1,⟨⟨rfl,rfl,rfl,bM (by omega),trivial⟩,⟨rfl,trivial⟩,⟨by omega,gY hy.2 (RF.1 (by assumption))⟩,(by show es.length-(y+1)<es.length-y;omega)⟩⟩)
  |((conv=>whnf);exact ⟨x+1,⟨⟨rfl,rfl,bM (by omega),trivial⟩,⟨rfl,trivial⟩,⟨by omega,gY hx.2 ((TT (by omega)).1 (by assumption))⟩,(by show ls.length-(x+1)<ls.length-x;omega)⟩⟩)⟩
def La:Tab:=(25,.row 2 [(0,1,false),(1,1,false)] [.v (.slice none 0 0),.v (.slice none 0 0)]) :: (2000000000,.flag) :: adL
theorem rO:dR Tryz.prog La=true:=by kernel_rfl
def aas:Go.Shelf.Ren:=⟨λn=>if n=41 then 53 else n,λn=>if n=22 then 22 else if n=23 then 89 else n,id⟩
theorem Z4:Go.Proofs.SlLaysE0.n41 Tryz.prog aas where
 mixed:=fF
 f41:=⟨ "slices.Clone[[]swarf/api.LayerDef,swarf/api.LayerDef]",by decide,Eq.trans Tryz.func53 (congrArg some (Eq.refl _))⟩
 t4:=Tryz.underlying4
 a4:=Tryz.isAgg4
 z4:=Tryz.sizeOf4
 v4:=Tryz.zeroValue4
 t22:=Tryz.underlying22
 a22:=Tryz.isAgg22
 z22:=Tryz.sizeOf22
 v22:=Tryz.zeroValue22
theorem WV:∃i0,Tryz.prog.info? 89=some i0∧i0.zero=some (.agg #[.string ByteArray.empty,.int .i64 0,.int .i64 0])∧i0.size=3∧i0.bytes=32:=info_parts (by kernel_rfl)
instance agx(es:List (List Cell)):DenI Tryz.prog 53 [.c (.sl 3 es)] (es.length≤1000000) (.c (.sl 3 es)):=⟨λhp=>by
 obtain ⟨i0,h1,h2,h3,h4⟩:=WV
 exact Oi Z4 (by kernel_rfl) i0 _ h1 h2 h3 (by omega) rfl (by decide) Tryz.sizeOf89 hp⟩
theorem vK(es:List Ent):(es.map fQ).map dh=es.map cO:=by
 rw [List.map_map];exact List.map_congr_left λe _=>aac e
instance (priority:=2000) Rl(ls:List LayD)(es:List Ent):DenI Tryz.prog 20 [.agg [(.sl 3 (ls.map dw)),.sl 7 (es.map cO)]] (ls.length≤1000∧es.length≤1000∧(∀l∈ls,l.name.size≤1000)∧∀e∈es,sN (fQ e)) (.int .i64 (je ls (es.map fQ))):=⟨λ⟨h1,h2,h3,h4⟩=>by
 have h:=(adT ls (es.map fQ)).den ⟨h1,by rw [List.length_map];exact h2,h3,λe he=>by obtain ⟨x,hx,rfl⟩:=List.mem_map.1 he;exact h4 x hx⟩;rw [vK] at h
 exact h⟩
set_option maxHeartbeats 16000000 in
theorem Yr(ls:List LayD)(es:List Ent)(tol:Rat)(h1:ls.length≤1000)(h2:(∀l∈ls,l.name.size≤1000))(h3:es.length≤12)(h4:∀e∈es,okV e)(h5:∀e∈es,sN (fQ e))(h6n:rz tol≤12)(h7:¬tol<0)(h8:je ls (es.map fQ)=0):
 Den Tryz.prog 13 [.agg [(.sl 3 (ls.map dw)),.sl 7 (es.map cO)],R tol] (.tup [.agg [(.sl 3 (ls.map dw)),.sl 7 ((aN (tol*tol) es).es.map cO)],.c (.sl 19 ((aN (tol*tol) es).cs.map uD)),.int .i64 0]):=by
 haveI i_v:DenI Tryz.prog 20 [.agg [(.sl 3 (ls.map dw)),.sl 7 (es.map cO)]] (ls.length≤1000∧es.length≤1000∧(∀l∈ls,l.name.size≤1000)∧∀e∈es,sN (fQ e)) (.int .i64 0):=⟨λhp=>by have:=(Rl ls es).den hp;rwa [h8] at this⟩
 have hz1:(cZ (tol*tol) 0 [] es).es.zipIdx.length≤12:=by have:=KN tol es;unfold jZ at this;omega
 have hz2:∀x∈(cZ (tol*tol) 0 [] es).es.zipIdx,okV x.1:=Yy (tol:=tol) h4;have hk1:=Nat.le_trans (JU tol es) h3;have hk2:=YF (tol:=tol) h4;have hl1:=Nat.le_trans (KG tol es) h3;have hl2:=acE (tol:=tol) h4;have hr:=L9 (tol:=tol) h4;have hr1:(cZ (tol*tol) 0 [] es).cs.length≤24:=by have:=(hr 0).1;omega
 have hr2:(ou (cZ (tol*tol) 0 [] es).es.zipIdx).length≤12:=by have:=(hr 0).2.1;unfold jZ at this;omega
 have hr3:=zi (jL tol es) (jL tol es).length (Nat.le_refl _);rw [MZ] at hr3;refine Den.of ⟨by kernel_rfl,λw X vs ho hX hl hR=>?_⟩ rfl
 haveI:WOk Tryz.prog w:=⟨ho⟩
 refine enter Tryz.func13 rfl rfl (by rw [hl];rfl) λa hF=>?_
 have hc:=rP (N:=90) hX hl hR hF;refine Jt (τ:=La) rO fF 9 _ (QA:=λz e b=>z=.normal∧SubE [(4,.ptr 4 0),(9,.gs 2000030 ((FZ tol es (jK tol es).length).map uD).length),(11,.gs 100 ((jL tol es).map jW).length),(14,.ptr 14 0)] e∧SubB [(4,.var [.v (.slice none 0 0),.v (.slice none 0 0)]),(14,.var [(.sl 3 (ls.map dw)),.v (.slice none 0 0)]),(2000030,.grow 47 19 ((FZ tol es (jK tol es).length).map uD)),(100,.grow 86 8 ((jL tol es).map jW))] b) (by kernel_rfl) ?_ hc (λe b a w hq hc2=>?_) (λx e b a w hx hq hc=>absurd hq.1 hx)
 case refine_1 =>
  clear hc hF hR hl hX
  all_goals (repeat' ((try (conv=>whnf));first
   |refine aH ?_
   |refine ak ?_ ?_
   |(with_reducible refine au (λ_=>?_) (λ_=>?_))
   |(with_reducible refine bW (λ_=>?_) (λ_=>?_))
   |refine bT ?_ ?_))
  all_goals (try refine Pr.mk ?_)
  all_goals (try simp only [List.length_map,Int.toNat_natCast] at *)
  all_goals first
   |((conv=>whnf);refine Sw.Loop.ghost 11 100 86 8 ?_ rfl rfl rfl (by decide);refine Sw.Loop.inv (α:=Nat) (λx=>[(2,.ptr 2 0),(4,.ptr 4 0),(8,.c (.sl 8 ((jK tol es).map jW))),(42,.c (.sl 1 ((dO ((jK tol es).map (·.1))).map bC))),(43,.int .i64 ((jK tol es).length:Nat)),(44,.int .i64 (x:Nat)),(9,.gs 2000030 ((FZ tol es x).map uD).length),(11,.gs 100 ((Ji (jK tol es) x).map jW).length)]) (λx=>[(2,.var [(.sl 3 (ls.map dw)),.sl 7 (es.map cO)]),(4,.var [.v (.slice none 0 0),.v (.slice none 0 0)]),(2000030,.grow 47 19 ((FZ tol es x).map uD)),(100,.grow 86 8 ((Ji (jK tol es) x).map jW))]) (λx=>x≤(jK tol es).length) (λx=>(jK tol es).length-x) 0 ?_ ?_ ?_ (λx hx=>?_))
   |skip
  all_goals (repeat' ((try (conv=>whnf));first
   |refine ak ?_ ?_
   |(with_reducible refine au (λ_=>?_) (λ_=>?_))
   |refine OnB.mk (λ_=>?_) (λ_=>?_)
   |refine bT ?_ ?_
   |refine aS N0 ?_ ?_
   |refine aS false ?_ ?_))
  all_goals (try refine Pr.mk ?_)
  all_goals (try simp only [List.length_map,Int.toNat_natCast] at *)
  all_goals (try simp only [ig] at *)
  all_goals first
   |(exfalso;rename ¬True=>h;exact h trivial)
   |(exfalso;rename tol<0=>hx;exact h7 hx)
   |((with_reducible show (_:Nat)=_);rfl)
   |omega
   |exact ⟨h6n,h3,λe he=>(h4 e he).2⟩
   |exact ⟨h1,by omega,h2,h5⟩
   |exact ⟨hz1,hz2⟩
   |exact ⟨hk1,hk2⟩
   |((with_reducible show (_:Nat)≤_);have hrx:=(hr x).2.2;have hlx:=(Ew (jK tol es) x).1;simp only [List.length_append,List.length_map,List.length_cons,List.length_nil];omega)
   |((with_reducible show (_:Nat)≤_);simp only [List.length_append,List.length_map,List.length_cons,List.length_nil];omega)
   |((with_reducible show SubE _ _);exact ⟨rfl,rfl,rfl,rfl,(by show some (AV.int .i64 _)=some (AV.int .i64 _);rw [show (dO (List.map (λx=>x.fst) (nZ (cZ (tol*tol) 0 [] es).es.zipIdx))).length=(jK tol es).length from by rw [iU,List.length_map];rfl]),rfl,(by show some (AV.gs _ _)=some (AV.gs _ _);simp only [YG,List.length_append,List.length_map,List.length_cons,List.length_nil];rfl),rfl,trivial⟩)
   |(have hkr:(dO (List.map (λx=>x.fst) (jK tol es))).length=(jK tol es).length:=(by rw [iU,List.length_map]);omega)
   |((with_reducible show SubB _ _);exact ⟨rfl,rfl,(by show some _=some _;simp only [YG,List.map_append,List.map_cons,List.map_nil,List.append_nil];rfl),rfl,trivial⟩)
   |(obtain ⟨h9,h10⟩:=abH (tol:=tol) (es:=es) (x:=x) (by omega) (by assumption);(conv=>whnf);exact ⟨x+1,⟨⟨rfl,rfl,rfl,rfl,rfl,bM (by omega),(by (simp only [h9,h10,List.map_append,List.map_cons,List.map_nil,List.append_nil,List.length_append,List.length_map,List.length_cons,List.length_nil]);(first|done|rfl)),(by (simp only [h9,h10,List.map_append,List.map_cons,List.map_nil,List.append_nil,List.length_append,List.length_map,List.length_cons,List.length_nil]);(first|done|rfl)),trivial⟩,⟨rfl,rfl,(by (simp only [h9,h10,List.map_append,List.map_cons,List.map_nil,List.append_nil]);(first|done|rfl)),(by (simp only [h9,h10,List.map_append,List.map_cons,List.map_nil,List.append_nil]);(first|done|rfl)),trivial⟩,by omega,(by show (jK tol es).length-(x+1)<(jK tol es).length-x;omega)⟩⟩)
   |(obtain ⟨h9,h10⟩:=abJ (tol:=tol) (es:=es) (x:=x) (by omega) (by assumption);(conv=>whnf);exact ⟨x+1,⟨⟨rfl,rfl,rfl,rfl,rfl,bM (by omega),(by (simp only [h9,h10,List.map_append,List.map_cons,List.map_nil,List.append_nil,List.length_append,List.length_map,List.length_cons,List.length_nil]);(first|done|rfl)),(by (simp only [h9,h10,List.map_append,List.map_cons,List.map_nil,List.append_nil,List.length_append,List.length_map,List.length_cons,List.length_nil]);(first|done|rfl)),trivial⟩,⟨rfl,rfl,(by (simp only [h9,h10,List.map_append,List.map_cons,List.map_nil,List.append_nil]);(first|done|rfl)),(by (simp only [h9,h10,List.map_append,List.map_cons,List.map_nil,List.append_nil]);(first|done|rfl)),trivial⟩,by omega,(by show (jK tol es).length-(x+1)<(jK tol es).length-x;omega)⟩⟩)
   |(have hxx:x=(jK tol es).length:=(by omega);subst hxx;(conv=>whnf);refine ⟨rfl,⟨rfl,rfl,(by (try rw [D7]);rfl),rfl,trivial⟩,⟨rfl,rfl,rfl,(by (try rw [D7]);rfl),trivial⟩⟩)
 clear hc;obtain ⟨_,he,hb⟩:=hq;have hc:=hc2.sub he hb;clear he hb hc2 hF hR hl hX;replace hc:=hc.ghostF (i:=200) (j:=14) (T:=55) (s:=7) (k:=1) rfl rfl rfl rfl (by decide) rfl;refine jl (τ:=La) rO fF _ (QA:=S9 La _ [none,none,none] (.tup [.agg [(.sl 3 (ls.map dw)),.sl 7 ((aN (tol*tol) es).es.map cO)],.c (.sl 19 ((aN (tol*tol) es).cs.map uD)),.int .i64 0])) (by kernel_rfl) ?_ hc (λx e b a w' hx hc'=>Ef rO hx hc');clear hc ho
 all_goals (repeat' ((try (conv=>whnf));first
  |refine bT ?_ ?_))
 all_goals (try refine Pr.mk ?_)
 all_goals (try simp only [List.length_map,Int.toNat_natCast] at *)
 all_goals first
  |((conv=>whnf);refine Sw.Loop.inv (α:=Nat) (λx=>[(4,.ptr 4 0),(9,.gs 2000030 ((FZ tol es (jK tol es).length).map uD).length),(11,.gs 100 ((jL tol es).map jW).length),(14,.ptr 14 0),(71,.gs 100 ((jL tol es).map jW).length),(72,.int .i64 ((jL tol es).length:Nat)),(73,.int .i64 (x:Nat))]) (λx=>[(200,.grow 55 7 ((((jL tol es).take x).map (·.1)).map cO)),(14,.varo [(.sl 3 (ls.map dw)),.ob 200 ((((jL tol es).take x).map (·.1)).map cO).length]),(4,.var [.v (.slice none 0 0),.v (.slice none 0 0)]),(2000030,.grow 47 19 ((FZ tol es (jK tol es).length).map uD)),(100,.grow 86 8 ((jL tol es).map jW))]) (λx=>x≤(jL tol es).length) (λx=>(jL tol es).length-x) 0 ?_ ?_ ?_ (λx hx=>?_))
 all_goals (repeat' ((try (conv=>whnf));first
  |refine ak ?_ ?_
  |(with_reducible refine au (λ_=>?_) (λ_=>?_))
  |refine bT ?_ ?_
  |refine Drw.mk (by kernel_rfl) ?_
  |refine aS N0 ?_ ?_
  |refine Ends.mk ?_))
 all_goals (try refine Pr.mk ?_)
 all_goals (try simp only [List.length_map,Int.toNat_natCast] at *)
 all_goals first
  |((with_reducible show (_:Nat)=_);rfl)
  |omega
  |exact ⟨hl1,λx hx=>(hl2 x hx).2⟩
  |((with_reducible show (_:Nat)≤_);have hrx:=(hr (jK tol es).length).2.2;simp only [List.length_append,List.length_map,List.length_cons,List.length_nil,List.length_take];omega)
  |((with_reducible show SubE _ _);exact ⟨rfl,rfl,rfl,rfl,rfl,rfl,rfl,trivial⟩)
  |((with_reducible show SubB _ _);exact ⟨rfl,rfl,rfl,rfl,rfl,trivial⟩)
  |((with_reducible show aG _=_);have hxx:x=(jL tol es).length:=(by omega);subst hxx;rw [List.take_length,(EF tol es).1,(EF tol es).2,List.map_append];rfl)
  |(have hm:=OW (l:=(jL tol es)) (x:=x) (by omega);have hn:(List.take (x+1) (jL tol es)).length=(List.take x (jL tol es)).length+(0+1):=(by simp only [List.length_take];omega);(conv=>whnf);exact ⟨x+1,⟨⟨rfl,rfl,rfl,rfl,rfl,rfl,bM (by omega),trivial⟩,⟨(by (simp only [hm,List.map_append,List.map_cons,List.map_nil,List.append_nil]);(first|done|rfl)),(by (simp only [hm,hn,List.map_append,List.map_cons,List.map_nil,List.append_nil,List.length_append,List.length_map,List.length_cons,List.length_nil]);(first|done|rfl)),rfl,rfl,rfl,trivial⟩,by omega,(by show (jL tol es).length-(x+1)<(jL tol es).length-x;omega)⟩⟩)
instance Hf(ls:List LayD)(es:List Ent)(tol:Rat):DenI Tryz.prog 13 [.agg [(.sl 3 (ls.map dw)),.sl 7 (es.map cO)],R tol] (ls.length≤1000∧(∀l∈ls,l.name.size≤1000)∧es.length≤12∧(∀e∈es,okV e)∧(∀e∈es,sN (fQ e))∧rz tol≤12∧¬tol<0∧je ls (es.map fQ)=0) (.tup [.agg [(.sl 3 (ls.map dw)),.sl 7 ((aN (tol*tol) es).es.map cO)],.c (.sl 19 ((aN (tol*tol) es).cs.map uD)),.int .i64 0]):=⟨λ⟨h1,h2,h3,h4,h5,h6,h7,h8⟩=>Yr ls es tol h1 h2 h3 h4 h5 h6 h7 h8⟩
instance agc(kd en fi:Int)(b1 b2 b3 b4 b5 b6 b7 b8:Bool)(l1 l2 l3 l4 l5 l6 l7 l8:List (List Cell)):DenI Tryz.prog 62 [.agg [.v (.int .i64 kd),.v (.int .i64 en),.v (.int .i64 fi),.v (.bool b1),.sl 1 l1,.v (.bool b2),.sl 1 l2,.v (.bool b3),.sl 1 l3,.v (.bool b4),.sl 1 l4,.v (.bool b5),.sl 1 l5,.v (.bool b6),.sl 1 l6,.v (.bool b7),.sl 1 l7,.v (.bool b8),.sl 1 l8]] (True) (.bool (!decide (kd=4))):=⟨λhp=>by
 refine ahm Tryz.func62 rfl ?_
 all_goals (repeat' ((try (conv=>whnf));first
  |refine Ends.mk ?_))
 all_goals first
  |rfl⟩
instance ag0(cs:List Chn):DenI Tryz.prog 82 [.c (.sl 19 (cs.map uD)),.c (.v (.func (.func 62) #[] #[]))] (cs.length≤1000) (.int .i64 (YJ cs)):=⟨λhp=>by
 refine ahm Tryz.func82 rfl ?_
 all_goals first
  |((conv=>whnf);refine Sw.Loop.inv (α:=Nat) (λk=>[(0,.c (.sl 19 (cs.map uD))),(1,.c (.v (.func (.func 62) #[] #[]))),(6,.c (.sl 19 (cs.map uD))),(7,.int .i64 (cs.length:Nat)),(8,.int .i64 (k:Nat))]) (λk=>[]) (λk=>k≤cs.length∧∀j<k,(cs.getD j C0).kind=4) (λk=>cs.length-k) 0 ?_ ?_ ?_ (λk hk=>?_))
 all_goals (repeat' ((try (conv=>whnf));first
  |(with_reducible refine au (λ_=>?_) (λ_=>?_))
  |refine aS C0 ?_ ?_
  |refine Ends.mk ?_))
 all_goals (try refine Pr.mk ?_)
 all_goals (try simp only [List.length_map,Int.toNat_natCast] at *)
 all_goals (try (with_reducible show UQ _ _ _ _;generalize hcc:cs.getD k C0=c;(try rw [hcc]);obtain ⟨kd,en,fi,sr,ds⟩:=c;cases sr<;>cases ds))
 all_goals (repeat' ((try (conv=>whnf));first
  |refine aH ?_
  |(with_reducible refine bW (λ_=>?_) (λ_=>?_))
  |refine Ends.mk ?_))
 all_goals (try simp only [List.length_map,Int.toNat_natCast] at *)
 all_goals first
  |omega
  |trivial
  |exact ⟨Nat.zero_le _,λj hj=>absurd hj (Nat.not_lt_zero _)⟩
  |((conv=>whnf);exact ⟨k+1,⟨⟨rfl,rfl,rfl,rfl,bM (by omega),trivial⟩,trivial,⟨by omega,gY hk.2 (by rw [hcc];dsimp only;omega)⟩,(by show cs.length-(k+1)<cs.length-k;omega)⟩⟩)
  |((with_reducible show aG _=_);rw [ZP (x:=k) (by omega) hk.2 (by rw [hcc];dsimp only;omega)];rfl)
  |((with_reducible show aG _=_);have hxx:k=cs.length:=(by omega);subst hxx;rw [acS hk.2];rfl)⟩
instance agG(cs:List Chn):DenI Tryz.prog 43 [.c (.sl 19 (cs.map uD)),.c (.v (.func (.func 62) #[] #[]))] (cs.length≤1000) (.bool (!J8 cs)):=⟨λhp=>by
 refine ahm Tryz.func43 rfl ?_
 all_goals (repeat' ((try (conv=>whnf));first
  |refine ak ?_ ?_
  |refine Ends.mk ?_))
 all_goals (try refine Pr.mk ?_)
 all_goals first
  |omega
  |exact bE (ac0 cs)⟩
instance Y2(ls:List LayD)(es:List Ent)(tol:Rat):DenI Tryz.prog 19 [.agg [(.sl 3 (ls.map dw)),.sl 7 (es.map cO)],R tol] (ls.length≤1000∧(∀l∈ls,l.name.size≤1000)∧es.length≤12∧(∀e∈es,okV e)∧(∀e∈es,sN (fQ e))∧rz tol≤12∧¬tol<0∧je ls (es.map fQ)=0) (.bool (J8 (aN (tol*tol) es).cs)):=⟨λhp=>by
 have hlen:(aN (tol*tol) es).cs.length≤1000:=MO hp.2.2.1 hp.2.2.2.1
 all_goals refine ahm Tryz.func19 rfl ?_
 all_goals (repeat' ((try (conv=>whnf));first
  |refine ak ?_ ?_
  |(with_reducible refine aK ?_)
  |(with_reducible refine aO ?_)
  |(with_reducible refine au (λ_=>?_) (λ_=>?_))
  |refine Ends.mk ?_))
 all_goals (try refine Pr.mk ?_)
 all_goals first
  |exact hp
  |exact hlen
  |(refine bE ?_;rw [Bool.not_not])
  |(exfalso;rename ¬0=0=>h;exact h rfl)⟩
instance aeO(x y u v:Int):DenI Tryz.prog 47 [.int .i64 x,.int .i64 y,.int .i64 u,.int .i64 v] (lu x∧lu y∧lu u∧lu v) (.agg (cO (Iy x y u v))):=⟨λhp=>by
 obtain ⟨h1,h2,h3,h4⟩:=hp;unfold lu at *
 all_goals refine ahm Tryz.func47 rfl ?_
 all_goals (repeat' ((try (conv=>whnf));first
  |refine ak ?_ ?_
  |refine Ends.mk ?_))
 all_goals (try refine Pr.mk ?_)
 all_goals first
  |exact ⟨h1,h2⟩
  |exact ⟨h3,h4⟩
  |rfl⟩
instance af8(es:List (List Cell)):DenI Tryz.prog 46 [.c (.sl 7 es)] (True) (.agg [.sl 3 (aLL.map dw),.sl 7 es]):=⟨λhp=>by
 refine ahm Tryz.func46 rfl ?_
 all_goals (repeat' ((try (conv=>whnf));first
  |refine Ends.mk ?_))
 all_goals first
  |rfl⟩
instance agf:DenI Tryz.prog 11 [] (True) (.bool true):=⟨λhp=>by
 haveI r1:DenI Tryz.prog 13 [.agg [.sl 3 (aLL.map dw),.sl 7 [cO (Iy 0 0 1000 0),cO (Iy 1003 0 0 1000),cO (Iy 0 1004 0 0)]],R ((5:Int):Rat)] True (.tup [.agg [.sl 3 (aLL.map dw),.sl 7 ((aN (((5:Int):Rat)*((5:Int):Rat)) aw1).es.map cO)],.c (.sl 19 ((aN (((5:Int):Rat)*((5:Int):Rat)) aw1).cs.map uD)),.int .i64 0]):=⟨λ_=>(Hf aLL aw1 ((5:Int):Rat)).den ⟨by decide,by decide,by decide,wU.1,wU.2,(Ij (by decide) (by decide)).1,(Ij (by decide) (by decide)).2,RJ⟩⟩
 haveI r2:DenI Tryz.prog 13 [.agg [.sl 3 (aLL.map dw),.sl 7 [cO (Iy 0 0 1000 0),cO (Iy 1003 0 0 1000),cO (Iy 0 1004 0 0)]],R ((3:Int):Rat)] True (.tup [.agg [.sl 3 (aLL.map dw),.sl 7 ((aN (((3:Int):Rat)*((3:Int):Rat)) aw1).es.map cO)],.c (.sl 19 ((aN (((3:Int):Rat)*((3:Int):Rat)) aw1).cs.map uD)),.int .i64 0]):=⟨λ_=>(Hf aLL aw1 ((3:Int):Rat)).den ⟨by decide,by decide,by decide,wU.1,wU.2,(Ij (by decide) (by decide)).1,(Ij (by decide) (by decide)).2,RJ⟩⟩
 haveI r3:DenI Tryz.prog 13 [.agg [.sl 3 (aLL.map dw),.sl 7 [cO (Iy 0 0 2 0)]],R ((5:Int):Rat)] True (.tup [.agg [.sl 3 (aLL.map dw),.sl 7 ((aN (((5:Int):Rat)*((5:Int):Rat)) aw2).es.map cO)],.c (.sl 19 ((aN (((5:Int):Rat)*((5:Int):Rat)) aw2).cs.map uD)),.int .i64 0]):=⟨λ_=>(Hf aLL aw2 ((5:Int):Rat)).den ⟨by decide,by decide,by decide,QI.1,QI.2,(Ij (by decide) (by decide)).1,(Ij (by decide) (by decide)).2,acu⟩⟩
 haveI r4:DenI Tryz.prog 19 [.agg [.sl 3 (aLL.map dw),.sl 7 [cO (Iy 0 0 1000 0),cO (Iy 1003 0 0 1000),cO (Iy 0 1004 0 0)]],R ((5:Int):Rat)] True (.bool false):=⟨λ_=>by have h:=(Y2 aLL aw1 ((5:Int):Rat)).den ⟨by decide,by decide,by decide,wU.1,wU.2,(Ij (by decide) (by decide)).1,(Ij (by decide) (by decide)).2,RJ⟩;rw [adU] at h;exact h⟩
 obtain ⟨a1,b1⟩:=U3 abY;obtain ⟨a2,b2⟩:=U3 acI;obtain ⟨a3,b3⟩:=U3 adz;have a4:=ab1;have c10:=b1 0 (by decide);have c11:=b1 1 (by decide);have c21:=b2 1 (by decide);have c22:=b2 2 (by decide);have c31:=b3 1 (by decide);generalize (aN (((5:Int):Rat)*((5:Int):Rat)) aw1).cs=C1 at *;generalize (aN (((3:Int):Rat)*((3:Int):Rat)) aw1).cs=C2 at *;generalize (aN (((5:Int):Rat)*((5:Int):Rat)) aw2).cs=C3 at *;generalize (aN (((5:Int):Rat)*((5:Int):Rat)) aw2).es=E3 at *;generalize (aN (((5:Int):Rat)*((5:Int):Rat)) aw1).es=E1 at *;generalize (aN (((3:Int):Rat)*((3:Int):Rat)) aw1).es=E2 at *;have d10:(C1.getD 0 C0).kind=1∧(C1.getD 0 C0).ent=1:=c10;have d11:(C1.getD 1 C0).kind=1∧(C1.getD 1 C0).ent=2:=c11;have d21:(C2.getD 1 C0).kind=4∧(C2.getD 1 C0).ent=1:=c21;have d22:(C2.getD 2 C0).kind=4∧(C2.getD 2 C0).ent=2:=c22;have d31:(C3.getD 1 C0).kind=2∧(C3.getD 1 C0).ent=0:=c31;clear b1 b2 b3 c10 c11 c21 c22 c31
 all_goals refine ahm Tryz.func11 rfl ?_
 all_goals (repeat' ((try (conv=>whnf));first
  |refine aH ?_
  |refine ak ?_ ?_
  |(with_reducible refine aK ?_)
  |(with_reducible refine aO ?_)
  |(with_reducible refine au (λ_=>?_) (λ_=>?_))
  |(with_reducible refine bW (λ_=>?_) (λ_=>?_))
  |refine Drw.mk (by kernel_rfl) ?_
  |refine aS C0 ?_ ?_
  |refine Ends.mk ?_))
 all_goals (try refine Pr.mk ?_)
 all_goals (try simp only [List.length_map,a1,a2,a3,a4,List.length_cons,List.length_nil] at *)
 all_goals (try simp only [Int.toNat_zero,show Int.toNat 1=1 from rfl,show Int.toNat 2=2 from rfl] at *)
 all_goals first
  |trivial
  |omega⟩
instance ahh(r:Rq):DenI Tryz.prog 112 [.agg (Qz r)] (True) (.bool (Vx r)):=⟨λhp=>by
 refine ahm Tryz.func112 rfl ?_
 all_goals (repeat' ((try (conv=>whnf));first
  |(with_reducible refine aK ?_)
  |(with_reducible refine aO ?_)
  |(with_reducible refine au (λ_=>?_) (λ_=>?_))
  |refine Ends.mk ?_))
 all_goals (try simp only [List.length_map,Int.toNat_natCast] at *)
 all_goals first
  |(refine bE ?_;unfold Vx;rw [Bool.eq_iff_iff];simp only [Bool.and_eq_true,decide_eq_true_eq];omega)
  |(refine bE ?_;exact (Y6 (by omega)).symm)⟩
instance ag5(ls:List LayD)(es:List EntR):DenI Tryz.prog 75 [.agg [(.sl 3 (ls.map dw)),.sl 7 (es.map dh)]] (es.length≤12) (.bool (OT ls es)):=⟨λhp=>by
 refine ahm Tryz.func75 rfl ?_
 all_goals (repeat' ((try (conv=>whnf));first
  |(with_reducible refine aK ?_)
  |(with_reducible refine aO ?_)
  |(with_reducible refine au (λ_=>?_) (λ_=>?_))
  |refine Ends.mk ?_))
 all_goals (try simp only [List.length_map,Int.toNat_natCast] at *)
 all_goals first
  |((conv=>whnf);refine Sw.Loop.inv (α:=Nat) (λx=>[(1,.ptr 1 0),(3,.int .i64 (x:Nat))]) (λx=>[(1,.var [(.sl 3 (ls.map dw)),.sl 7 (es.map dh)])]) (λx=>x≤ls.length∧∀j<x,(ls.getD j L0).name.size≤60) (λx=>ls.length-x) 0 ?_ ?_ ?_ (λx hx=>?_))
  |skip
 all_goals (repeat' ((try (conv=>whnf));first
  |(with_reducible refine au (λ_=>?_) (λ_=>?_))
  |refine aS L0 ?_ ?_
  |refine Ends.mk ?_))
 all_goals (try refine Pr.mk ?_)
 all_goals (try simp only [List.length_map,Int.toNat_natCast] at *)
 all_goals first
  |((conv=>whnf);refine Sw.Loop.inv (α:=Nat) (λy=>[(1,.ptr 1 0),(4,.int .i64 (y:Nat))]) (λy=>[(1,.var [(.sl 3 (ls.map dw)),.sl 7 (es.map dh)])]) (λy=>y≤es.length∧∀j<y,yG (es.getD j uz)=true) (λy=>es.length-y) 0 ?_ ?_ ?_ (λy hy=>?_))
  |skip
 all_goals (repeat' ((try (conv=>whnf));first
  |refine aH ?_
  |(with_reducible refine aK ?_)
  |(with_reducible refine aO ?_)
  |(with_reducible refine au (λ_=>?_) (λ_=>?_))
  |refine OnB.mk (λ_=>?_) (λ_=>?_)
  |refine aS uz ?_ ?_
  |refine Ends.mk ?_))
 all_goals (try refine Pr.mk ?_)
 all_goals (try simp only [List.length_map,Int.toNat_natCast] at *)
 all_goals first
  |((conv=>whnf);refine Sw.Loop.inv (α:=Nat) (λz=>[(1,.ptr 1 0),(4,.int .i64 (y:Nat)),(5,.ptr 5 0),(6,.int .i64 (z:Nat))]) (λz=>[(1,.var [(.sl 3 (ls.map dw)),.sl 7 (es.map dh)]),(5,.var (dh (es.getD y uz)))]) (λz=>z≤(es.getD y uz).pts.length∧∀k<z,vsB ((es.getD y uz).pts.getD k vY)=true) (λz=>(es.getD y uz).pts.length-z) 0 ?_ ?_ ?_ (λz hz=>?_))
  |skip
 all_goals (repeat' ((try (conv=>whnf));first
  |refine aH ?_
  |(with_reducible refine aK ?_)
  |(with_reducible refine aO ?_)
  |(with_reducible refine au (λ_=>?_) (λ_=>?_))
  |refine OnB.mk (λ_=>?_) (λ_=>?_)
  |refine aS vY ?_ ?_
  |refine Ends.mk ?_))
 all_goals (try refine Pr.mk ?_)
 all_goals (try simp only [List.length_map,Int.toNat_natCast] at *)
 all_goals first
  |trivial
  |omega
  |exact ⟨Nat.zero_le _,λj hj=>absurd hj (Nat.not_lt_zero _)⟩
  |(refine bE ?_;rw [Y8 (by omega)];done)
  |(refine bE ?_;rw [aa0 (x:=x) (by omega) (by omega)];done)
  |(refine bE ?_;refine (EU (x:=y) (by omega) (Lc (.inl ?_))).symm;omega)
  |(refine bE ?_;refine (EU (x:=y) (by omega) (Lc (.inr (.inl ?_)))).symm;omega)
  |(refine bE ?_;refine (EU (x:=y) (by omega) (Zl (k:=z) (by omega) ?_)).symm;unfold vsB;simp_all;done)
  |(refine bE ?_;refine (EU (x:=y) (by omega) (Lc (.inr (.inr ?_)))).symm;simp_all;done)
  |(refine bE ?_;have hxx:x=ls.length:=(by omega);subst hxx;have hyy:y=es.length:=(by omega);subst hyy;rw [acY (by omega) hx.2 hy.2];done)
  |((conv=>whnf);exact ⟨z+1,⟨⟨rfl,rfl,rfl,bM (by omega),trivial⟩,⟨rfl,rfl,trivial⟩,⟨by omega,gY hz.2 (by unfold vsB;simp_all;done)⟩,(by show (es.getD y uz).pts.length-(z+1)<(es.getD y uz).pts.length-z;omega)⟩⟩)
  |((conv=>whnf);exact ⟨y+1,⟨⟨rfl,bM (by omega),trivial⟩,⟨rfl,trivial⟩,⟨by omega,gY hy.2 (aaw (by omega) (by omega) (by simp_all;done) (by have hzz:z=(es.getD y uz).pts.length:=(by omega);subst hzz;exact hz.2))⟩,(by show es.length-(y+1)<es.length-y;omega)⟩⟩)
  |((conv=>whnf);exact ⟨x+1,⟨⟨rfl,bM (by omega),trivial⟩,⟨rfl,trivial⟩,⟨by omega,gY hx.2 (by omega)⟩,(by show ls.length-(x+1)<ls.length-x;omega)⟩⟩)⟩
instance ag8(ls:List LayD)(es:List EntR):DenI Tryz.prog 33 [.agg [(.sl 3 (ls.map dw)),.sl 7 (es.map dh)]] (True) (.bool (decide (es.length≤12) && OT ls es)):=⟨λhp=>by
 refine ahm Tryz.func33 rfl ?_
 all_goals (repeat' ((try (conv=>whnf));first
  |refine ak ?_ ?_
  |(with_reducible refine aK ?_)
  |(with_reducible refine aO ?_)
  |(with_reducible refine au (λ_=>?_) (λ_=>?_))
  |refine Ends.mk ?_))
 all_goals (try refine Pr.mk ?_)
 all_goals (try simp only [List.length_map,Int.toNat_natCast] at *)
 all_goals first
  |omega
  |(refine bE ?_;rw [decide_eq_true (by omega)];simp;done)
  |(refine bE ?_;rw [decide_eq_false (by omega)];rfl)⟩
instance ahc(r:Rq):DenI Tryz.prog 48 [.agg (Qz r),.int .i64 3] (True) (.bool (YT 3 (r.a,r.l,r.b,r.m))):=⟨λhp=>by
 refine ahm Tryz.func48 rfl ?_
 all_goals (repeat' ((try (conv=>whnf));first
  |refine ak ?_ ?_
  |(with_reducible refine aK ?_)
  |(with_reducible refine aO ?_)
  |(with_reducible refine au (λ_=>?_) (λ_=>?_))
  |refine Ends.mk ?_))
 all_goals (try refine Pr.mk ?_)
 all_goals (try simp only [List.length_map,Int.toNat_natCast] at *)
 all_goals first
  |omega
  |(refine bE ?_;rw [abT (k:=3) (r:=(r.a,r.l,r.b,r.m)) (by show (r.l.length:Int) > 3;omega)];done)
  |(refine bE ?_;rw [adk (k:=3) (r:=(r.a,r.l,r.b,r.m)) (by show (r.m.length:Int) > 3;omega)];done)
  |(refine bE ?_;unfold YT;simp_all;done)⟩
instance adI(ls:List LayD)(es:List EntR)(t:Rq):DenI Tryz.prog 12 [.agg [(.sl 3 (ls.map dw)),.sl 7 (es.map dh)],.agg (Qz t)] (True) (.bool (smA ls es t)):=⟨λhp=>by
 refine ahm Tryz.func12 rfl ?_
 all_goals (repeat' ((try (conv=>whnf));first
  |refine aH ?_
  |(with_reducible refine aK ?_)
  |(with_reducible refine aO ?_)
  |refine OnB.mk (λ_=>?_) (λ_=>?_)
  |refine Ends.mk ?_))
 all_goals first
  |(refine bE ?_;unfold smA;simp_all;done)⟩
instance agl(l:List Nat):DenI Tryz.prog 106 [.c (bG l),.c (bG l)] (True) (.int .i64 0):=⟨λhp=>by
 refine fP (by kernel_rfl) (λhl=>?_);simp only [nS,kX,cellsOf,List.length_map,and_true,true_and] at hl
 all_goals refine ahm Tryz.func106 rfl ?_
 all_goals (repeat' ((try (conv=>whnf));first
  |(with_reducible refine au (λ_=>?_) (λ_=>?_))
  |(with_reducible refine bW (λ_=>?_) (λ_=>?_))
  |refine Ends.mk ?_))
 all_goals (try simp only [List.length_map,Int.toNat_natCast] at *)
 all_goals first
  |((conv=>whnf);refine Sw.Loop.inv (α:=Nat) (λx=>[(0,.c (bG l)),(1,.c (bG l)),(5,.int .i64 ((x:Nat)-1:Int))]) (λx=>[]) (λx=>x≤l.length∧True) (λx=>x) l.length ?_ ?_ ?_ (λx hx=>?_))
  |skip
 all_goals (repeat' ((try (conv=>whnf));first
  |(with_reducible refine au (λ_=>?_) (λ_=>?_))
  |refine Drw.mk (by kernel_rfl) ?_
  |(with_reducible refine dB ?_ ?_)
  |refine Ends.mk ?_))
 all_goals (try refine Pr.mk ?_)
 all_goals (try simp only [List.length_map,Int.toNat_natCast] at *)
 all_goals first
  |omega
  |trivial
  |exact ⟨Nat.le_refl _,trivial⟩
  |(refine ⟨rfl,rfl, ?_,trivial⟩;show some (AV.int .i64 _)=some (AV.int .i64 _);rw [bV (by omega) (by omega)])
  |((conv=>whnf);exact ⟨x-1,⟨⟨rfl,rfl,(by show some (AV.int .i64 _)=some (AV.int .i64 _);rw [bV (by omega) (by omega)];congr 2;omega),trivial⟩,trivial,⟨by omega,trivial⟩,(by show x-1<x;omega)⟩⟩)⟩
instance agH(n:Bool)(l:List Nat):DenI Tryz.prog 111 [Zr n l,Zr n l] (True) (.bool true):=⟨λhp=>by
 refine ahm Tryz.func111 rfl ?_
 all_goals (repeat' ((try (conv=>whnf));first
  |refine aH ?_
  |(with_reducible refine aK ?_)
  |(with_reducible refine aO ?_)
  |refine OnB.mk (λ_=>?_) (λ_=>?_)
  |refine Ends.mk ?_))
 all_goals first
  |rfl
  |(exfalso;simp at *;done)⟩
instance agM(r:Rq):DenI Tryz.prog 74 [.agg (Qz r),.agg (Qz r)] (True) (.bool true):=⟨λhp=>by
 refine ahm Tryz.func74 rfl ?_
 all_goals (repeat' ((try (conv=>whnf));first
  |refine aH ?_
  |(with_reducible refine aK ?_)
  |refine Ends.mk ?_))
 all_goals first
  |rfl⟩
instance ag6(p:Rq × Rq):DenI Tryz.prog 27 [.agg (sV p),.agg (sV p)] (True) (.bool true):=⟨λhp=>by
 refine ahm Tryz.func27 rfl ?_
 all_goals (repeat' ((try (conv=>whnf));first
  |refine aH ?_
  |(with_reducible refine aK ?_)
  |refine Ends.mk ?_))
 all_goals first
  |rfl⟩
theorem Zf{es:List EntR}(h:∀e∈es,e.pts.length≤1000){x:Nat}(hx:x<es.length):(es.getD x uz).pts.length≤1000:=h _ (by simp [List.getD,hx])
theorem OM{l:List EntR}{x:Nat}(h:x<l.length):(l.take (x+1)).map dh=(l.take x).map dh++[dh (l.getD x uz)]:=by
 rw [List.take_succ,List.map_append];simp [List.getD,h]
theorem XO(ls:List LayD)(es:List EntR)(h1:ls.length≤1000)(h2:es.length≤1000)(h3:∀e∈es,e.pts.length≤1000):
 Den Tryz.prog 14 [.agg [(.sl 3 (ls.map dw)),.sl 7 (es.map dh)]] (.agg [(.sl 3 (ls.map dw)),.sl 7 (es.map dh)]):=by
 refine Den.of ⟨by kernel_rfl,λw X vs ho hX hl hR=>?_⟩ rfl
 haveI:WOk Tryz.prog w:=⟨ho⟩
 refine enter Tryz.func14 rfl rfl (by rw [hl];rfl) λa hF=>?_
 have hc:=rP (N:=29) hX hl hR hF;refine Jt (τ:=La) rO fF 2 _ (QA:=λz e b=>z=.normal∧SubE [(3,.ptr 3 0),(2,.ptr 2 0),(1,.ptr 1 0)] e∧SubB [(1,.var [(.sl 3 (ls.map dw)),.sl 7 (es.map dh)]),(3,.var [(.sl 3 (ls.map dw)),.v (.slice none 0 0)]),(2,.var [.v (.slice none 0 0),.v (.slice none 0 0)])] b) (by kernel_rfl) ?_ hc (λe b a w hq hc2=>?_) (λx e b a w hx hq hc=>absurd hq.1 hx)
 case refine_1 =>
  clear hc hF hR hl hX
  all_goals (repeat' ((try (conv=>whnf));first
   |refine ak ?_ ?_))
  all_goals (try refine Pr.mk ?_)
  all_goals (try simp only [List.length_map,Int.toNat_natCast] at *)
  all_goals first
   |omega
   |exact ⟨rfl,⟨rfl,rfl,rfl,trivial⟩,⟨rfl,rfl,rfl,trivial⟩⟩
 clear hc;obtain ⟨_,he,hb⟩:=hq;have hc:=hc2.sub he hb;clear he hb hc2 hF hR hl hX;replace hc:=hc.ghostF (i:=200) (j:=3) (T:=55) (s:=7) (k:=1) rfl rfl rfl rfl (by decide) rfl;refine jl (τ:=La) rO fF _ (QA:=S9 La _ [none] (.agg [(.sl 3 (ls.map dw)),.sl 7 (es.map dh)])) (by kernel_rfl) ?_ hc (λx e b a w' hx hc'=>Ef rO hx hc');clear hc ho
 all_goals (try simp only [List.length_map,Int.toNat_natCast] at *)
 all_goals first
  |((conv=>whnf);refine Sw.Loop.inv (α:=Nat) (λx=>[(2,.ptr 2 0),(3,.ptr 3 0),(11,.c (.sl 7 (es.map dh))),(12,.int .i64 (es.length:Nat)),(13,.int .i64 (x:Nat))]) (λx=>[(200,.grow 55 7 ((es.take x).map dh)),(3,.varo [(.sl 3 (ls.map dw)),.ob 200 ((es.take x).map dh).length]),(2,.var [.v (.slice none 0 0),.v (.slice none 0 0)])]) (λx=>x≤es.length) (λx=>es.length-x) 0 ?_ ?_ ?_ (λx hx=>?_))
 all_goals (repeat' ((try (conv=>whnf));first
  |refine ak ?_ ?_
  |(with_reducible refine au (λ_=>?_) (λ_=>?_))
  |refine bT ?_ ?_
  |refine aS uz ?_ ?_
  |refine Ends.mk ?_))
 all_goals (try refine Pr.mk ?_)
 all_goals (try simp only [List.length_map,Int.toNat_natCast] at *)
 all_goals first
  |((with_reducible show (_:Nat)=_);rfl)
  |omega
  |(have hz:=Zf h3 (x:=x) (by omega);omega)
  |((with_reducible show (_:Nat)≤_);simp only [List.length_append,List.length_map,List.length_cons,List.length_nil,List.length_take];omega)
  |((with_reducible show SubE _ _);exact ⟨rfl,rfl,rfl,rfl,rfl,trivial⟩)
  |((with_reducible show SubB _ _);exact ⟨rfl,rfl,rfl,trivial⟩)
  |(have hm:=OM (l:=es) (x:=x) (by omega);have hn:(List.take (x+1) es).length=(List.take x es).length+(0+1):=(by simp only [List.length_take];omega);(conv=>whnf);exact ⟨x+1,⟨⟨rfl,rfl,rfl,rfl,bM (by omega),trivial⟩,⟨(by (simp only [hm,List.map_append,List.map_cons,List.map_nil,List.append_nil]);(first|done|rfl)),(by (simp only [hm,hn,List.map_append,List.map_cons,List.map_nil,List.append_nil,List.length_append,List.length_map,List.length_cons,List.length_nil]);(first|done|rfl)),rfl,trivial⟩,by omega,(by show es.length-(x+1)<es.length-x;omega)⟩⟩)
  |((with_reducible show aG _=_);have hxx:x=es.length:=(by omega);subst hxx;rw [List.take_length];rfl)
instance (priority:=900) ab8(ls:List LayD)(es:List EntR):DenI Tryz.prog 14 [.agg [(.sl 3 (ls.map dw)),.sl 7 (es.map dh)]] (ls.length≤1000∧es.length≤1000∧∀e∈es,sN e) (.agg [(.sl 3 (ls.map dw)),.sl 7 (es.map dh)]):=⟨λ⟨h1,h2,h3⟩=>XO ls es h1 h2 λe he=>Nat.le_trans (h3 e he).2.2.1 (by decide)⟩
instance (priority:=2000) ae2(ls:List LayD)(es:List Ent):DenI Tryz.prog 14 [.agg [(.sl 3 (ls.map dw)),.sl 7 (es.map cO)]] (ls.length≤1000∧es.length≤1000∧∀e∈es,sN (fQ e)) (.agg [(.sl 3 (ls.map dw)),.sl 7 (es.map cO)]):=⟨λ⟨h1,h2,h3⟩=>by
 have h:=(ab8 ls (es.map fQ)).den ⟨h1,by rw [List.length_map];exact h2,λe he=>by obtain ⟨x,hx,rfl⟩:=List.mem_map.1 he;exact h3 x hx⟩;rw [vK] at h
 exact h⟩
instance (priority:=60) ac6(ls:List LayD)(es:List EntR)(q:Rat):DenI Tryz.prog 13 [.agg [(.sl 3 (ls.map dw)),.sl 7 (es.map dh)],R q] (ls.length≤1000∧es.length≤1000∧(∀l∈ls,l.name.size≤1000)∧(∀e∈es,sN e)∧(je ls es≠0∨q<0)∧rz q≤12) (.tup [.agg [.sl 3 [],.sl 7 []],.c (.sl 0 []),.int .i64 (if je ls es≠0 then je ls es else 1)]):=⟨λhp=>by
 obtain ⟨h1,h2,h3,h4,h5,h6⟩:=hp
 all_goals refine ahm Tryz.func13 rfl ?_
 all_goals (repeat' ((try (conv=>whnf));first
  |refine aH ?_
  |refine ak ?_ ?_
  |(with_reducible refine au (λ_=>?_) (λ_=>?_))
  |(with_reducible refine bW (λ_=>?_) (λ_=>?_))
  |refine Ends.mk ?_))
 all_goals (try refine Pr.mk ?_)
 all_goals (try simp only [ig] at *)
 all_goals first
  |exact ⟨h1,h2,h3,h4⟩
  |(rename ¬je ls es=0=>h;rw [if_pos h];rfl)
  |(rename je ls es=0=>h;rw [if_neg (λg=>g h)];rfl)
  |(exfalso;rename ¬q<0=>h;exact h5.elim (λg=>g (by assumption)) h)⟩
instance (priority:=60) agr(ls:List LayD)(es:List EntR)(q:Rat):DenI Tryz.prog 19 [.agg [(.sl 3 (ls.map dw)),.sl 7 (es.map dh)],R q] (ls.length≤1000∧es.length≤1000∧(∀l∈ls,l.name.size≤1000)∧(∀e∈es,sN e)∧(je ls es≠0∨q<0)∧rz q≤12) (.bool false):=⟨λhp=>by
 refine ahm Tryz.func19 rfl ?_
 all_goals (repeat' ((try (conv=>whnf));first
  |refine ak ?_ ?_
  |(with_reducible refine aK ?_)
  |(with_reducible refine aO ?_)
  |(with_reducible refine au (λ_=>?_) (λ_=>?_))
  |refine Ends.mk ?_))
 all_goals (try refine Pr.mk ?_)
 all_goals (try simp only [List.length_map,Int.toNat_natCast] at *)
 all_goals first
  |exact hp
  |rfl
  |omega⟩
instance agW(e:EntR):DenI Tryz.prog 61 [.agg (dh e),.agg (dh e)] (e.pts.length≤5) (.bool true):=⟨λhp=>by
 refine ahm Tryz.func61 rfl ?_
 all_goals (repeat' ((try (conv=>whnf));first
  |refine aH ?_
  |(with_reducible refine aK ?_)
  |(with_reducible refine aO ?_)
  |(with_reducible refine au (λ_=>?_) (λ_=>?_))
  |(with_reducible refine bW (λ_=>?_) (λ_=>?_))
  |refine OnB.mk (λ_=>?_) (λ_=>?_)
  |refine Ends.mk ?_))
 all_goals (try simp only [List.length_map,Int.toNat_natCast] at *)
 all_goals first
  |((conv=>whnf);refine Sw.Loop.inv (α:=Nat) (λx=>[(2,.ptr 2 0),(3,.ptr 3 0),(5,.int .i64 (x:Nat))]) (λx=>[(2,.var (dh e)),(3,.var (dh e))]) (λx=>x≤e.pts.length∧True) (λx=>e.pts.length-x) 0 ?_ ?_ ?_ (λx hx=>?_))
  |skip
 all_goals (repeat' ((try (conv=>whnf));first
  |refine aH ?_
  |(with_reducible refine au (λ_=>?_) (λ_=>?_))
  |refine OnB.mk (λ_=>?_) (λ_=>?_)
  |refine Drw.mk (by kernel_rfl) ?_
  |refine aS vY ?_ ?_
  |refine Ends.mk ?_))
 all_goals (try refine Pr.mk ?_)
 all_goals (try simp only [List.length_map,Int.toNat_natCast] at *)
 all_goals first
  |omega
  |trivial
  |exact ⟨Nat.zero_le _,trivial⟩
  |(exfalso;simp at *;done)
  |((conv=>whnf);exact ⟨x+1,⟨⟨rfl,rfl,bM (by omega),trivial⟩,⟨rfl,rfl,trivial⟩,⟨by omega,trivial⟩,(by show e.pts.length-(x+1)<e.pts.length-x;omega)⟩⟩)⟩
instance abO(ls:List LayD)(es:List EntR):DenI Tryz.prog 16 [.agg [(.sl 3 (ls.map dw)),.sl 7 (es.map dh)],.agg [(.sl 3 (ls.map dw)),.sl 7 (es.map dh)]] (ls.length≤1000∧es.length≤1000∧∀e∈es,sN e) (.bool true):=⟨λhp=>by
 obtain ⟨h1,h2,h3⟩:=hp
 all_goals refine ahm Tryz.func16 rfl ?_
 all_goals (repeat' ((try (conv=>whnf));first
  |(with_reducible refine aK ?_)
  |(with_reducible refine aO ?_)
  |(with_reducible refine bW (λ_=>?_) (λ_=>?_))
  |refine Ends.mk ?_))
 all_goals (try simp only [List.length_map,Int.toNat_natCast] at *)
 all_goals first
  |((conv=>whnf);refine Sw.Loop.inv (α:=Nat) (λx=>[(2,.ptr 2 0),(3,.ptr 3 0),(5,.int .i64 (x:Nat))]) (λx=>[(2,.var [(.sl 3 (ls.map dw)),.sl 7 (es.map dh)]),(3,.var [(.sl 3 (ls.map dw)),.sl 7 (es.map dh)])]) (λx=>x≤ls.length∧True) (λx=>ls.length-x) 0 ?_ ?_ ?_ (λx hx=>?_))
  |skip
 all_goals (repeat' ((try (conv=>whnf));first
  |(with_reducible refine au (λ_=>?_) (λ_=>?_))
  |refine OnB.mk (λ_=>?_) (λ_=>?_)
  |refine Drw.mk (by kernel_rfl) ?_
  |refine aS L0 ?_ ?_
  |refine Ends.mk ?_))
 all_goals (try refine Pr.mk ?_)
 all_goals (try simp only [List.length_map,Int.toNat_natCast] at *)
 all_goals first
  |((conv=>whnf);refine Sw.Loop.inv (α:=Nat) (λy=>[(2,.ptr 2 0),(3,.ptr 3 0),(6,.int .i64 (y:Nat))]) (λy=>[(2,.var [(.sl 3 (ls.map dw)),.sl 7 (es.map dh)]),(3,.var [(.sl 3 (ls.map dw)),.sl 7 (es.map dh)])]) (λy=>y≤es.length∧True) (λy=>es.length-y) 0 ?_ ?_ ?_ (λy hy=>?_))
  |skip
 all_goals (repeat' ((try (conv=>whnf));first
  |refine ak ?_ ?_
  |(with_reducible refine au (λ_=>?_) (λ_=>?_))
  |refine OnB.mk (λ_=>?_) (λ_=>?_)
  |refine Drw.mk (by kernel_rfl) ?_
  |refine aS uz ?_ ?_
  |refine Ends.mk ?_))
 all_goals (try refine Pr.mk ?_)
 all_goals (try simp only [List.length_map,Int.toNat_natCast] at *)
 all_goals first
  |omega
  |trivial
  |exact ⟨Nat.zero_le _,trivial⟩
  |(exfalso;rename (!(_ && (decide True && (decide True && true))))=true=>h;have hb:∀z:ByteArray,(z == z)=true:=(λz=>by show (z.data == z.data)=true;simp);rw [hb] at h;cases h)
  |(have hz:=(YC h3 (x:=y) (by omega));exact hz.2.2.1)
  |((conv=>whnf);exact ⟨y+1,⟨⟨rfl,rfl,bM (by omega),trivial⟩,⟨rfl,rfl,trivial⟩,⟨by omega,trivial⟩,(by show es.length-(y+1)<es.length-y;omega)⟩⟩)
  |((conv=>whnf);exact ⟨x+1,⟨⟨rfl,rfl,bM (by omega),trivial⟩,⟨rfl,rfl,trivial⟩,⟨by omega,trivial⟩,(by show ls.length-(x+1)<ls.length-x;omega)⟩⟩)⟩
instance (priority:=2000) afj(ls:List LayD)(es:List Ent):DenI Tryz.prog 16 [.agg [(.sl 3 (ls.map dw)),.sl 7 (es.map cO)],.agg [(.sl 3 (ls.map dw)),.sl 7 (es.map cO)]] (ls.length≤1000∧es.length≤1000∧∀e∈es,sN (fQ e)) (.bool true):=⟨λ⟨h1,h2,h3⟩=>by
 have h:=(abO ls (es.map fQ)).den ⟨h1,by rw [List.length_map];exact h2,λe he=>by obtain ⟨x,hx,rfl⟩:=List.mem_map.1 he;exact h3 x hx⟩;rw [vK] at h
 exact h⟩
end Go.Proofs.YtmniihkenijjpaaGreatDoor
