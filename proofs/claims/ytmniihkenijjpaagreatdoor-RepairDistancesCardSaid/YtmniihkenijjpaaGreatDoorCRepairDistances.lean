/-
  What the functions swarflaw23.RepairDistances, swarflaw23.RepairDistances, swarflaw23.RepairDistances answer, each out of its text by the abstract run.
  No end is moved farther than the tolerance, and different ends of a layer of the repaired drawing are farther apart: the law returns true for every drawing and tolerance.
  Conditions: none.
-/
import Derived.Test.YtmniihkenijjpaaGreatDoorGRepairDistances
import Derived.Shelf.LaysM
import Derived.Shelf.Strconv.Itoa1
import Derived.Shelf.Strconv.Itoa2
import Derived.Lib.Walk
import Derived.Lib.ItoaMem
import Derived.Lib.ItoaLen
import Derived.Lib.AppendIntMem
import Derived.WalkKit
import Derived.BigCall
import Derived.BigGuard
import Derived.Shelf.SlicesE.Clone
set_option linter.all false
namespace Go.Proofs.YtmniihkenijjpaaGreatDoor
open Go Go.RowKit Go.Sw Go.Shelf
set_option maxRecDepth 100000
set_option maxHeartbeats 8000000
set_option synthInstance.maxSize 4000
set_option synthInstance.maxHeartbeats 400000
instance (priority:=40) acN(ls:List LayD)(es:List EntR)(t:Rq):DenI Tryz.prog 5 [.agg [(.sl 3 (ls.map dB)),.sl 7 (es.map dL)],.agg (QH t)] (smA ls es t=false) (.bool true):=⟨λhp=>by
 refine aiE Tryz.func5 rfl ?_
 all_goals (repeat' ((try (conv=>whnf));first
  |refine aG ?_
  |refine ak ?_ ?_
  |(with_reducible refine aJ ?_)
  |(with_reducible refine aK ?_)
  |(with_reducible refine au (λ_=>?_) (λ_=>?_))
  |refine OnB.mk (λ_=>?_) (λ_=>?_)
  |refine Ends.mk ?_))
 all_goals (try refine Pr.mk ?_)
 all_goals (try simp only [List.length_map,Int.toNat_natCast] at *)
 all_goals first
  |trivial
  |(exfalso;simp_all;done)⟩
instance (priority:=50) ZH(ls:List LayD)(es:List EntR)(q:Rat):DenI Tryz.prog 5 [.agg [(.sl 3 (ls.map dB)),.sl 7 (es.map dL)],R q] (smA ls es (nJ q)=true∧ls.length≤1000∧es.length≤1000∧(∀l∈ls,l.name.size≤1000)∧(∀e∈es,rE e)∧(jf ls es≠0∨q<0)∧rz q≤12) (.bool true):=⟨λhp=>by
 obtain ⟨hs,hp⟩:=hp;have hv:=aaO ls es;generalize hcd:(if jf ls es≠0 then jf ls es else 1)=cd at hv;have hp1:=hp;obtain ⟨h1,h2,h3,h4,h5,h6⟩:=hp1
 haveI i1:DenI Tryz.prog 13 [.agg [(.sl 3 (ls.map dB)),.sl 7 (es.map dL)],R q] True (.tup [.agg [.sl 3 [],.sl 7 []],.c (.sl 0 []),.int .i64 cd]):=⟨λ_=>by have h:=(aed ls es q).den hp;rwa [hcd] at h⟩
 all_goals refine aiE Tryz.func5 rfl ?_
 all_goals (repeat' ((try (conv=>whnf));first
  |refine aG ?_
  |refine ak ?_ ?_
  |(with_reducible refine aJ ?_)
  |(with_reducible refine aK ?_)
  |(with_reducible refine au (λ_=>?_) (λ_=>?_))
  |(with_reducible refine bG (λ_=>?_) (λ_=>?_))
  |refine OnB.mk (λ_=>?_) (λ_=>?_)
  |refine Drw.mk (by kernel_rfl) ?_
  |refine Ends.mk ?_))
 all_goals (try refine Pr.mk ?_)
 all_goals (try simp only [dU] at *)
 all_goals first
  |trivial
  |exact bE (decide_eq_true (by rw [← hcd,if_pos (h5.elim id (λh=>absurd h (by assumption)))]))⟩
instance (priority:=60) aeN(ls:List LayD)(es:List Ent)(q:Rat):DenI Tryz.prog 5 [.agg [(.sl 3 (ls.map dB)),.sl 7 (es.map bZ)],R q] (smA ls (es.map fV) (nJ q)=true∧ls.length≤1000∧(∀l∈ls,l.name.size≤1000)∧es.length≤12∧(∀e∈es,okV e)∧(∀e∈es,rE (fV e))∧rz q≤12∧¬q<0∧jf ls (es.map fV)=0) (.bool true):=⟨λhp=>by
 obtain ⟨hs,hp⟩:=hp;have hp1:=hp;obtain ⟨h1,h2,h3,h4,h5,h6,h7,h8⟩:=hp1;obtain ⟨k1,k2,k3,k4⟩:=Qg (q:=q) h3 h4 h5 h8;have kp:=(Ny ls es q).den hp;have hj:=abJ (q:=q) h4;have ha:∀a∈(aT (q*q) es).es,∀b∈(aT (q*q) es).es,eqS a.layer b.layer=true→∀u∈aP a,∀v∈aP b,iH u v≤q*q→u=v:=λa g1 b g2 g3 u g4 v g5 g6=>Qq g1 g2 g3 g4 g5 g6
 have hcl:=Oj (tol:=q) h3 h4;generalize (aT (q*q) es).es=E1 at *;generalize (aT (q*q) es).cs=C1 at *;have hq2:rz (q*q)≤1000:=by have:=iW q q;omega
 have hL:∀e:Ent,(aP e).length≤2:=λe=>by have:=BX e;omega
 have hE:∀z,z<E1.length→E1.getD z E0∈E1:=λz hz=>BG hz
 have hV:∀z,z<E1.length→okV (E1.getD z E0):=λz hz=>k2 _ (hE z hz)
 haveI i1:DenI Tryz.prog 13 [.agg [(.sl 3 (ls.map dB)),.sl 7 (es.map bZ)],R q] True (.tup [.agg [(.sl 3 (ls.map dB)),.sl 7 (E1.map bZ)],.c (.sl 19 (C1.map vZ)),.int .i64 0]):=⟨λ_=>kp⟩
 all_goals refine aiE Tryz.func5 rfl ?_
 all_goals (repeat' ((try (conv=>whnf));first
  |refine aG ?_
  |refine ak ?_ ?_
  |(with_reducible refine aJ ?_)
  |(with_reducible refine aK ?_)
  |(with_reducible refine au (λ_=>?_) (λ_=>?_))
  |(with_reducible refine bG (λ_=>?_) (λ_=>?_))
  |refine OnB.mk (λ_=>?_) (λ_=>?_)
  |refine Drw.mk (by kernel_rfl) ?_
  |refine Ends.mk ?_))
 all_goals (try refine Pr.mk ?_)
 all_goals (try simp only [dU] at *)
 all_goals first
  |((conv=>whnf);refine Sw.Loop.inv (α:=Nat) (λk=>[(3,.ptr 3 0),(5,.ptr 5 0),(8,.ptr 8 0),(53,.c (.sl 19 (C1.map vZ))),(54,.int .i64 (C1.length:Nat)),(55,.int .i64 (k:Nat))]) (λk=>[(3,.var (oZ q)),(5,.var [(.sl 3 (ls.map dB)),.sl 7 (E1.map bZ)]),(8,.var (oZ (q*q)))]) (λk=>k≤C1.length) (λk=>C1.length-k) 0 ?_ ?_ ?_ (λk hk=>?_))
  |skip
 all_goals (repeat' ((try (conv=>whnf));first
  |(with_reducible refine au (λ_=>?_) (λ_=>?_))
  |refine aN C0 ?_ ?_))
 all_goals (try refine Pr.mk ?_)
 all_goals (try simp only [List.length_map,Int.toNat_natCast] at *)
 all_goals (try (with_reducible show Tq _ _ _ _;generalize hcc:C1.getD k C0=c;obtain ⟨kd,en,fi,sr,ds⟩:=c;cases sr<;>cases ds))
 all_goals (repeat' ((try (conv=>whnf));first
  |refine aG ?_
  |refine ak ?_ ?_
  |(with_reducible refine aJ ?_)
  |(with_reducible refine aK ?_)
  |(with_reducible refine au (λ_=>?_) (λ_=>?_))
  |refine Drw.mk (by kernel_rfl) ?_
  |refine Ends.mk ?_))
 all_goals (try refine Pr.mk ?_)
 all_goals (try simp only [dU] at *)
 all_goals first
  |((conv=>whnf);refine Sw.Loop.inv (α:=Nat) (λx=>[(5,.ptr 5 0),(8,.ptr 8 0),(79,.c (.sl 7 (E1.map bZ))),(80,.int .i64 (E1.length:Nat)),(81,.int .i64 (x:Nat))]) (λx=>[(5,.var [(.sl 3 (ls.map dB)),.sl 7 (E1.map bZ)]),(8,.var (oZ (q*q)))]) (λx=>x≤E1.length) (λx=>E1.length-x) 0 ?_ ?_ ?_ (λx hx=>?_))
  |skip
 all_goals (repeat' ((try (conv=>whnf));first
  |(with_reducible refine au (λ_=>?_) (λ_=>?_))
  |refine aN E0 ?_ ?_
  |refine Ends.mk ?_))
 all_goals (try refine Pr.mk ?_)
 all_goals (try simp only [List.length_map,Int.toNat_natCast] at *)
 all_goals first
  |((conv=>whnf);refine Sw.Loop.inv (α:=Nat) (λy=>[(5,.ptr 5 0),(8,.ptr 8 0),(79,.c (.sl 7 (E1.map bZ))),(80,.int .i64 (E1.length:Nat)),(81,.int .i64 (x:Nat)),(12,.ptr 12 0),(86,.c (.sl 7 (E1.map bZ))),(87,.int .i64 (E1.length:Nat)),(88,.int .i64 (y:Nat))]) (λy=>[(5,.var [(.sl 3 (ls.map dB)),.sl 7 (E1.map bZ)]),(8,.var (oZ (q*q))),(12,.var (bZ (E1.getD x E0)))]) (λy=>y≤E1.length) (λy=>E1.length-y) 0 ?_ ?_ ?_ (λy hy=>?_))
  |skip
 all_goals (repeat' ((try (conv=>whnf));first
  |refine ak ?_ ?_
  |(with_reducible refine au (λ_=>?_) (λ_=>?_))
  |refine aN E0 ?_ ?_))
 all_goals (try refine Pr.mk ?_)
 all_goals (try simp only [List.length_map,Int.toNat_natCast] at *)
 all_goals first
  |((conv=>whnf);refine Sw.Loop.inv (α:=Nat) (λi=>[(5,.ptr 5 0),(8,.ptr 8 0),(79,.c (.sl 7 (E1.map bZ))),(80,.int .i64 (E1.length:Nat)),(81,.int .i64 (x:Nat)),(12,.ptr 12 0),(86,.c (.sl 7 (E1.map bZ))),(87,.int .i64 (E1.length:Nat)),(88,.int .i64 (y:Nat)),(14,.ptr 14 0),(17,.c (.sl 8 ((aP (E1.getD y E0)).map bn))),(102,.c (.sl 8 ((aP (E1.getD x E0)).map bn))),(103,.int .i64 ((aP (E1.getD x E0)).length:Nat)),(104,.int .i64 (i:Nat))]) (λi=>[(5,.var [(.sl 3 (ls.map dB)),.sl 7 (E1.map bZ)]),(8,.var (oZ (q*q))),(12,.var (bZ (E1.getD x E0))),(14,.var (bZ (E1.getD y E0)))]) (λi=>i≤(aP (E1.getD x E0)).length) (λi=>(aP (E1.getD x E0)).length-i) 0 ?_ ?_ ?_ (λi hi=>?_))
  |skip
 all_goals (repeat' ((try (conv=>whnf));first
  |(with_reducible refine au (λ_=>?_) (λ_=>?_))
  |refine aN P0 ?_ ?_))
 all_goals (try refine Pr.mk ?_)
 all_goals (try simp only [List.length_map,Int.toNat_natCast] at *)
 all_goals first
  |((conv=>whnf);refine Sw.Loop.inv (α:=Nat) (λj=>[(5,.ptr 5 0),(8,.ptr 8 0),(79,.c (.sl 7 (E1.map bZ))),(80,.int .i64 (E1.length:Nat)),(81,.int .i64 (x:Nat)),(12,.ptr 12 0),(86,.c (.sl 7 (E1.map bZ))),(87,.int .i64 (E1.length:Nat)),(88,.int .i64 (y:Nat)),(14,.ptr 14 0),(17,.c (.sl 8 ((aP (E1.getD y E0)).map bn))),(102,.c (.sl 8 ((aP (E1.getD x E0)).map bn))),(103,.int .i64 ((aP (E1.getD x E0)).length:Nat)),(104,.int .i64 (i:Nat)),(20,.ptr 20 0),(108,.c (.sl 8 ((aP (E1.getD y E0)).map bn))),(109,.int .i64 ((aP (E1.getD y E0)).length:Nat)),(110,.int .i64 (j:Nat))]) (λj=>[(5,.var [(.sl 3 (ls.map dB)),.sl 7 (E1.map bZ)]),(8,.var (oZ (q*q))),(12,.var (bZ (E1.getD x E0))),(14,.var (bZ (E1.getD y E0))),(20,.var (bn ((aP (E1.getD x E0)).getD i P0)))]) (λj=>j≤(aP (E1.getD y E0)).length) (λj=>(aP (E1.getD y E0)).length-j) 0 ?_ ?_ ?_ (λj hj2=>?_))
  |skip
 all_goals (repeat' ((try (conv=>whnf));first
  |refine ak ?_ ?_
  |(with_reducible refine aJ ?_)
  |(with_reducible refine aK ?_)
  |(with_reducible refine au (λ_=>?_) (λ_=>?_))
  |refine OnB.mk (λ_=>?_) (λ_=>?_)
  |refine Drw.mk (by kernel_rfl) ?_
  |refine aN P0 ?_ ?_
  |refine Ends.mk ?_))
 all_goals (try refine Pr.mk ?_)
 all_goals (try simp only [dU] at *)
 all_goals (try simp only [List.length_map,Int.toNat_natCast] at *)
 all_goals first|(with_reducible show SubE _ _;repeat' (first|exact trivial|refine And.intro ?_ ?_))|(with_reducible show SubB _ _;repeat' (first|exact trivial|refine And.intro ?_ ?_))|skip
 all_goals (try (have hLa:=hL (E1.getD x E0);have hLb:=hL (E1.getD y E0)))
 all_goals first
  |trivial
  |omega
  |exact ⟨h1,by omega,h5⟩
  |(exfalso;have hkk:k<C1.length:=(by omega);have hkd:(C1.getD k C0).kind=1:=(by rw [hcc];dsimp only;omega);obtain ⟨v,w,g1,g2,g3,g4,g5,g6⟩:=hj k hkk hkd;rw [hcc] at g1 g2;dsimp only at g1 g2;first|(cases g1;done)|(cases g2;done))
  |((with_reducible show _∧_);have hkk:k<C1.length:=(by omega);have hkd:(C1.getD k C0).kind=1:=(by rw [hcc];dsimp only;omega);obtain ⟨v,w,g1,g2,g3,g4,g5,g6⟩:=hj k hkk hkd;rw [hcc] at g1 g2;dsimp only at g1 g2;cases g1;cases g2;exact ⟨Nat.le_trans g5.1 (by decide),Nat.le_trans g5.2 (by decide),Nat.le_trans g6.1 (by decide),Nat.le_trans g6.2 (by decide)⟩)
  |((with_reducible show _∧_);have hkk:k<C1.length:=(by omega);have hkd:(C1.getD k C0).kind=1:=(by rw [hcc];dsimp only;omega);obtain ⟨v,w,g1,g2,g3,g4,g5,g6⟩:=hj k hkk hkd;rw [hcc] at g1 g2;dsimp only at g1 g2;cases g1;cases g2;exact ⟨Nat.le_trans (Cj g5.1 g5.2 g6.1 g6.2) (by decide),Nat.le_trans hq2 (by decide)⟩)
  |((with_reducible show aB _=_);exfalso;have hkk:k<C1.length:=(by omega);have hkd:(C1.getD k C0).kind=1:=(by rw [hcc];dsimp only;omega);obtain ⟨v,w,g1,g2,g3,g4,g5,g6⟩:=hj k hkk hkd;rw [hcc] at g1 g2;dsimp only at g1 g2;cases g1;cases g2;exact absurd g4 (Rat.not_le.2 (by assumption)))
  |((with_reducible show aB _=_);exfalso;have hkk:k<C1.length:=(by omega);have hkd:(C1.getD k C0).kind=1:=(by rw [hcc];dsimp only;omega);obtain ⟨v,w,g1,g2,g3,g4,g5,g6⟩:=hj k hkk hkd;rw [hcc] at g1 g2;dsimp only at g1 g2;cases g1;cases g2;exact g3 (aaJ g4 (by assumption)))
  |exact Nat.le_trans (hV x (by omega)).2.2.2 (by decide)
  |exact Nat.le_trans (hV y (by omega)).2.2.2 (by decide)
  |((with_reducible show _∧_);have e1:=(hV x (by omega)).2.1 _ (fU (xE (l:=aP (E1.getD x E0)) (x:=i) (by omega)));have e2:=(hV y (by omega)).2.1 _ (fU (xE (l:=aP (E1.getD y E0)) (x:=j) (by omega)));first|exact ⟨Nat.le_trans e1.1 (by decide),Nat.le_trans e1.2 (by decide),Nat.le_trans e2.1 (by decide),Nat.le_trans e2.2 (by decide)⟩|exact ⟨Nat.le_trans (Cj e1.1 e1.2 e2.1 e2.2) (by decide),Nat.le_trans hq2 (by decide)⟩)
  |((with_reducible show aB _=_);exfalso;have e1:=xE (l:=aP (E1.getD x E0)) (x:=i) (by omega);have e2:=xE (l:=aP (E1.getD y E0)) (x:=j) (by omega);have e3:=ha _ (hE x (by omega)) _ (hE y (by omega)) (by assumption) _ e1 _ e2 (by assumption);rename (!(_ && _))=true=>h9;rw [e3] at h9;simp at h9;done)
  |((conv=>whnf);exact ⟨j+1,⟨⟨rfl,rfl,rfl,rfl,rfl,rfl,rfl,rfl,rfl,rfl,rfl,rfl,rfl,rfl,rfl,rfl,rfl,aX (by omega),trivial⟩,⟨rfl,rfl,rfl,rfl,rfl,trivial⟩,by omega,(by show (aP (E1.getD y E0)).length-(j+1)<(aP (E1.getD y E0)).length-j;omega)⟩⟩)
  |((conv=>whnf);exact ⟨i+1,⟨⟨rfl,rfl,rfl,rfl,rfl,rfl,rfl,rfl,rfl,rfl,rfl,rfl,rfl,aX (by omega),trivial⟩,⟨rfl,rfl,rfl,rfl,trivial⟩,by omega,(by show (aP (E1.getD x E0)).length-(i+1)<(aP (E1.getD x E0)).length-i;omega)⟩⟩)
  |((conv=>whnf);exact ⟨y+1,⟨⟨rfl,rfl,rfl,rfl,rfl,rfl,rfl,rfl,aX (by omega),trivial⟩,⟨rfl,rfl,rfl,trivial⟩,by omega,(by show E1.length-(y+1)<E1.length-y;omega)⟩⟩)
  |((conv=>whnf);exact ⟨x+1,⟨⟨rfl,rfl,rfl,rfl,aX (by omega),trivial⟩,⟨rfl,rfl,trivial⟩,by omega,(by show E1.length-(x+1)<E1.length-x;omega)⟩⟩)
  |((conv=>whnf);exact ⟨k+1,⟨⟨rfl,rfl,rfl,rfl,rfl,aX (by omega),trivial⟩,⟨rfl,rfl,rfl,trivial⟩,by omega,(by show C1.length-(k+1)<C1.length-k;omega)⟩⟩)⟩
theorem afO(ls:List LayD)(es:List EntR)(t:Rq):Den Tryz.prog 5 [.agg [(.sl 3 (ls.map dB)),.sl 7 (es.map dL)],.agg (QH t)] (.bool true):=by
 cases hs:smA ls es t with
 |false=>exact (acN ls es t).den hs
 |true =>
  obtain ⟨g1,g2,g3,g4,q,rfl,g5⟩:=aa7 hs
  by_cases hv:jf ls es=0
  ·by_cases hq:q<0
   ·exact (ZH ls es q).den ⟨hs,by omega,by omega,g2,g4,.inr hq,by omega⟩
   ·obtain ⟨xs,rfl,hx⟩:=Rz g4 hv;have h:=(aeN ls xs q).den ⟨hs,by omega,g2,by simpa using g3,hx,λe he=>g4 _ (List.mem_map_of_mem he),by omega,hq,hv⟩;rw [← zD] at h;exact h
  ·exact (ZH ls es q).den ⟨hs,by omega,by omega,g2,g4,.inl hv,by omega⟩
end Go.Proofs.YtmniihkenijjpaaGreatDoor
namespace Go.Proofs.YtmniihkenijjpaaGreatDoor
open Go Go.RowKit Go.Sw Go.ChangeShapes Go.WideShapes Go.ChangeAt
set_option maxRecDepth 100000
theorem uQ:∀xs,NJ [.cons (.slice (.cons (.str) (.cons (.int .i64) (.cons (.int .i64) .nil)))) (.cons (.slice (.cons (.int .i64) (.cons (.str) (.cons (.slice (.cons (.cons (.cons (.bool) (.cons (.slice (.int .u32)) .nil)) (.cons (.cons (.bool) (.cons (.slice (.int .u32)) .nil)) .nil)) (.cons (.cons (.cons (.bool) (.cons (.slice (.int .u32)) .nil)) (.cons (.cons (.bool) (.cons (.slice (.int .u32)) .nil)) .nil)) .nil))) (.cons (.cons (.cons (.bool) (.cons (.slice (.int .u32)) .nil)) (.cons (.cons (.bool) (.cons (.slice (.int .u32)) .nil)) .nil)) .nil))))) .nil),.cons (.cons (.bool) (.cons (.slice (.int .u32)) .nil)) (.cons (.cons (.bool) (.cons (.slice (.int .u32)) .nil)) .nil)] xs→Den Tryz.prog 5 xs (.bool true):=by
 rintro xs ⟨_,_,⟨_,h,rfl⟩,⟨_,_,⟨_,h2,rfl⟩,rfl,rfl⟩,rfl⟩;obtain ⟨ls,es,rfl⟩:=X9 h;obtain ⟨t,rfl⟩:=Gz h2
 try simp only [List.append_nil,List.nil_append,List.cons_append]
 exact afO ls es t
theorem qX{W:World}(h:laidMetH Tryz.prog Rows.repairDistancesRow.laid W):Wld.ok Tryz.prog W:=by
 rw [MakeChecks.laidMetH_plain _ _ _ (by kernel_rfl)] at h
 exact ⟨Z5 (zs:=Lib.pow10Tab) (g:=1) (t:=353) (e:=152) h (List.mem_of_getElem? (i:=2) (by kernel_rfl)) (by kernel_rfl) (by kernel_rfl) Tryz.underlying353 Tryz.underlying152 (by kernel_rfl) (by kernel_rfl),
  Xd (nm := "swarf/drawing.shapes") (xs:=[(⟨#[]⟩,0),(⟨#[108,105,110,101]⟩,2),(⟨#[97,114,99]⟩,3),(⟨#[99,105,114,99,108,101]⟩,1)]) (g:=0) (t:=172) (e:=171) h (List.mem_of_getElem? (i:=3) (by kernel_rfl)) (by kernel_rfl) (by kernel_rfl) Tryz.underlying172 Tryz.underlying171 (by kernel_rfl) (by kernel_rfl) rfl rfl (by kernel_rfl) (by kernel_rfl) (by kernel_rfl)⟩
set_option maxHeartbeats 800000 in
theorem pY(os:Os)(started:os.Started)(H:Type)(enc:TypeId × Value→H):
 ReturnsInHanded {} Tryz.checked os 5 .any (λw args=>(Rows.repairDistancesSpec.pre enc Tryz.prog Tryz.f5 [] false w args∧laidMetH Tryz.prog Rows.repairDistancesRow.laid w)∧sizedMet enc Tryz.prog Tryz.f5 (OpenSpec.ofChange Rows.repairDistancesSpec) false w args) (Rows.repairDistancesSpec.post enc Tryz.prog Tryz.f5 false true false false):=by
 refine returnsInHanded_of_change_and (C:=Tryz.checked) (X:=λw _=>laidMetH Tryz.prog Rows.repairDistancesRow.laid w) (λ_ _ _ hh h=>h.of_heap hh) Tryz.own started (by kernel_rfl) Tryz.func5
  (ChangeSpec.witness_shaped (enc:=enc) (C:=Tryz.checked) (os:=os) (X:=λw _=>laidMetH Tryz.prog Rows.repairDistancesRow.laid w) false (World.laidAll Tryz.prog os Rows.repairDistancesRow.laid) #[.agg #[.slice none 0 0,.slice none 0 0],.agg #[.bool false,.slice none 0 0,.bool false,.slice none 0 0]] 12 (World.laidAll_os _ _ _)
   (World.shaped_of_ZipB (by kernel_rfl) (by kernel_rfl)) (by kernel_rfl) (by kernel_rfl) (by kernel_rfl)
   (by rw [MakeChecks.laidMetH_plain _ _ _ (by kernel_rfl)];exact laidMet_laidAll _ (by kernel_rfl) (by kernel_rfl))) ?_
 intro W base args ds gs before hval0 hW _ _ hL _;have hW':=hW;obtain ⟨p,q,hA0,hV,rfl,_,_⟩:=hW;have hA:DataW.TrodAll enc Tryz.prog W 0 (λ_=>true) true Tryz.f5.params.toList args.toList ds p:=hA0;obtain ⟨rfl,rfl⟩:=trodVars_none hV;obtain ⟨d0,d1,rfl⟩:=len2 (show ds.length=2 from yZ hA);simp only [List.append_nil] at hW';have hlt:∀x∈p,x.block<W.heap.size:=λx hx=>by simpa using hW'.lt x hx
 refine (Wy (Ts:=[.cons (.slice (.cons (.str) (.cons (.int .i64) (.cons (.int .i64) .nil)))) (.cons (.slice (.cons (.int .i64) (.cons (.str) (.cons (.slice (.cons (.cons (.cons (.bool) (.cons (.slice (.int .u32)) .nil)) (.cons (.cons (.bool) (.cons (.slice (.int .u32)) .nil)) .nil)) (.cons (.cons (.cons (.bool) (.cons (.slice (.int .u32)) .nil)) (.cons (.cons (.bool) (.cons (.slice (.int .u32)) .nil)) .nil)) .nil))) (.cons (.cons (.cons (.bool) (.cons (.slice (.int .u32)) .nil)) (.cons (.cons (.bool) (.cons (.slice (.int .u32)) .nil)) .nil)) .nil))))) .nil),.cons (.cons (.bool) (.cons (.slice (.int .u32)) .nil)) (.cons (.cons (.bool) (.cons (.slice (.int .u32)) .nil)) .nil)]) (by kernel_rfl) uQ (λj t v hj ha=>hval0 j t v (by simpa using hj) (by simpa using ha)) hA (qX hL)).mono λe W' he=>?_
 obtain ⟨_,rfl,rfl,hb⟩:=he;refine ⟨_,rfl,_,_,_,[],_,[],hW', ?_,uS Tryz.laidOut hb (by kernel_rfl) hlt hA,rfl,hb.frame _,λh=>by cases h⟩;exact trodAll_mk1 (shut_bool Tryz.underlying4 _)
theorem uP:Rows.RepairDistancesSaid :=
 OpenClaim.holds_of_wide 5 Tryz.f5 rfl rfl rfl rfl rfl rfl rfl ⟨rfl,rfl,rfl,rfl,rfl⟩ rfl rfl rfl rfl rfl (by kernel_rfl) Tryz.func5 rD
  (of_decide_eq_true (by kernel_rfl)) (by unfold Func.isWrapper;first|(rw [if_pos (by decide +kernel)];kernel_rfl)|(rw [if_neg (by decide +kernel)];exact ⟨rfl,rfl⟩))
  (λos started H enc _=>pY os started H enc)
theorem RepairDistances_holds:Rows.RepairDistancesCardSaid :=
 Claim7.holds_tied_plain_at .later [] [.data,.data,.data,.data] true (true,"f3ac26bbc19fa5dd170bbef99dadcbcd1f24a254e3c8ae9d56f844f18c3416bf") false uP (λ_ h=>by cases h) (by kernel_rfl) (λ_ h=>by cases h) repairDistances_row_tie rfl ⟨rfl,rfl⟩ rV rfl
  (λf fn hf hfn=>by
   obtain rfl:f=5:=Option.some.inj ((show Tryz.prog.funcNamed "swarf/swarflaw23.RepairDistances" = some 5 by kernel_rfl).symm.trans hf) |>.symm;obtain rfl:fn=Tryz.f5:=(Option.some.inj (Tryz.func5.symm.trans hfn)).symm
   exact ⟨qZ,λj t ht=>by
    have hm:t∈Tryz.f5.params.toList:=Array.mem_toList_iff.2 (Array.mem_of_getElem? ht);have hall:(Tryz.f5.params.toList.all λu=>!Tryz.prog.wantsStandIn u)=true:=by kernel_rfl
    exact (show Tryz.prog.wantsStandIn t=false by simpa using List.all_eq_true.1 hall t hm)⟩)
  rP
#print axioms RepairDistances_holds
end Go.Proofs.YtmniihkenijjpaaGreatDoor
