/-
  What the functions swarflaw23.RepairTwice, swarflaw23.RepairTwice, swarflaw23.RepairTwice answer, each out of its text by the abstract run.
  A repaired drawing is valid and clean, and repairing it again gives the same drawing: the law returns true for every drawing and tolerance.
  Conditions: none.
-/
import Derived.Test.YtmniihkenijjpaaGreatDoorGRepairTwice
import Derived.Shelf.LaysM
import Derived.Shelf.Strconv.Itoa1
import Derived.Shelf.Strconv.Itoa2
import Derived.Lib.Walk
import Derived.Lib.ItoaMem
import Derived.Lib.ItoaLen
import Derived.Lib.AppendIntMem
import Derived.WalkKit
import Derived.BigCall
import Derived.BigGuard
import Derived.Shelf.SlicesE.Clone
set_option linter.all false
namespace Go.Proofs.YtmniihkenijjpaaGreatDoor
open Go Go.RowKit Go.Sw Go.Shelf
set_option maxRecDepth 100000
set_option maxHeartbeats 8000000
set_option synthInstance.maxSize 4000
set_option synthInstance.maxHeartbeats 400000
instance Y7(ls:List LayD)(es:List EntR)(q:Rat):DenI Tryz.prog 12 [.agg [(.sl 3 (ls.map dw)),.sl 7 (es.map dh)],R q] True (.bool (smA ls es (mP q))):=⟨λ_=>(adI ls es (mP q)).den trivial⟩
instance (priority:=2000) aeX(ls:List LayD)(es:List Ent)(q:Rat):DenI Tryz.prog 12 [.agg [(.sl 3 (ls.map dw)),.sl 7 (es.map cO)],R q] True (.bool (smA ls (es.map fQ) (mP q))):=⟨λ_=>by
 have h:=(Y7 ls (es.map fQ) q).den trivial;rw [vK] at h
 exact h⟩
instance (priority:=40) adA(ls:List LayD)(es:List EntR)(t:Rq):DenI Tryz.prog 4 [.agg [(.sl 3 (ls.map dw)),.sl 7 (es.map dh)],.agg (Qz t)] (smA ls es t=false) (.bool true):=⟨λhp=>by
 refine ahm Tryz.func4 rfl ?_
 all_goals (repeat' ((try (conv=>whnf));first
  |refine aH ?_
  |refine ak ?_ ?_
  |(with_reducible refine aK ?_)
  |(with_reducible refine aO ?_)
  |refine OnB.mk (λ_=>?_) (λ_=>?_)
  |refine Ends.mk ?_))
 all_goals (try refine Pr.mk ?_)
 all_goals (try simp only [List.length_map,Int.toNat_natCast] at *)
 all_goals first
  |trivial
  |(exfalso;simp_all;done)⟩
instance (priority:=50) Y1(ls:List LayD)(es:List EntR)(q:Rat):DenI Tryz.prog 4 [.agg [(.sl 3 (ls.map dw)),.sl 7 (es.map dh)],R q] (smA ls es (mP q)=true∧ls.length≤1000∧es.length≤1000∧(∀l∈ls,l.name.size≤1000)∧(∀e∈es,sN e)∧(je ls es≠0∨q<0)∧rz q≤12) (.bool true):=⟨λhp=>by
 obtain ⟨hs,hp⟩:=hp;have hv:=aaA ls es;generalize hcd:(if je ls es≠0 then je ls es else 1)=cd at hv;have hp1:=hp;obtain ⟨h1,h2,h3,h4,h5,h6⟩:=hp1
 haveI i1:DenI Tryz.prog 13 [.agg [(.sl 3 (ls.map dw)),.sl 7 (es.map dh)],R q] True (.tup [.agg [.sl 3 [],.sl 7 []],.c (.sl 0 []),.int .i64 cd]):=⟨λ_=>by have h:=(ac6 ls es q).den hp;rwa [hcd] at h⟩
 all_goals refine ahm Tryz.func4 rfl ?_
 all_goals (repeat' ((try (conv=>whnf));first
  |refine aH ?_
  |refine ak ?_ ?_
  |(with_reducible refine aK ?_)
  |(with_reducible refine aO ?_)
  |(with_reducible refine au (λ_=>?_) (λ_=>?_))
  |(with_reducible refine bW (λ_=>?_) (λ_=>?_))
  |refine OnB.mk (λ_=>?_) (λ_=>?_)
  |refine Drw.mk (by kernel_rfl) ?_
  |refine Ends.mk ?_))
 all_goals (try refine Pr.mk ?_)
 all_goals (try simp only [List.length_map,Int.toNat_natCast] at *)
 all_goals first
  |trivial⟩
instance (priority:=60) acW(ls:List LayD)(es:List Ent)(q:Rat):DenI Tryz.prog 4 [.agg [(.sl 3 (ls.map dw)),.sl 7 (es.map cO)],R q] (smA ls (es.map fQ) (mP q)=true∧ls.length≤1000∧(∀l∈ls,l.name.size≤1000)∧es.length≤12∧(∀e∈es,okV e)∧(∀e∈es,sN (fQ e))∧rz q≤12∧¬q<0∧je ls (es.map fQ)=0) (.bool true):=⟨λhp=>by
 obtain ⟨hs,hp⟩:=hp;have hp1:=hp;obtain ⟨h1,h2,h3,h4,h5,h6,h7,h8⟩:=hp1;obtain ⟨k1,k2,k3,k4⟩:=OD (q:=q) h3 h4 h5 h8;have kp:=(Hf ls es q).den hp;have kq:=(Hf ls (aN (q*q) es).es q).den ⟨h1,h2,k1,k2,k3,h6,h7,k4⟩;have kc:=(Y2 ls (aN (q*q) es).es q).den ⟨h1,h2,k1,k2,k3,h6,h7,k4⟩;have kv:=(Rl ls (aN (q*q) es).es).den ⟨h1,by omega,h2,k3⟩;rw [k4] at kv;obtain ⟨r1,r2⟩:=PS (q*q) es;rw [V3 r2] at kc;rw [r1] at kq;have hcl:=MO (tol:=q) k1 k2;generalize (aN (q*q) (aN (q*q) es).es).cs=C2 at *;generalize (aN (q*q) es).es=E1 at *;generalize (aN (q*q) es).cs=C1 at *;have r3:∀k<C2.length,(C2.getD k C0).kind=4:=λk hk=>WT r2 hk
 haveI i1:DenI Tryz.prog 13 [.agg [(.sl 3 (ls.map dw)),.sl 7 (es.map cO)],R q] True (.tup [.agg [(.sl 3 (ls.map dw)),.sl 7 (E1.map cO)],.c (.sl 19 (C1.map uD)),.int .i64 0]):=⟨λ_=>kp⟩
 haveI i2:DenI Tryz.prog 13 [.agg [(.sl 3 (ls.map dw)),.sl 7 (E1.map cO)],R q] True (.tup [.agg [(.sl 3 (ls.map dw)),.sl 7 (E1.map cO)],.c (.sl 19 (C2.map uD)),.int .i64 0]):=⟨λ_=>kq⟩
 haveI i3:DenI Tryz.prog 19 [.agg [(.sl 3 (ls.map dw)),.sl 7 (E1.map cO)],R q] True (.bool true):=⟨λ_=>kc⟩
 haveI i4:DenI Tryz.prog 20 [.agg [(.sl 3 (ls.map dw)),.sl 7 (E1.map cO)]] True (.int .i64 0):=⟨λ_=>kv⟩
 all_goals refine ahm Tryz.func4 rfl ?_
 all_goals (repeat' ((try (conv=>whnf));first
  |refine aH ?_
  |refine ak ?_ ?_
  |(with_reducible refine aK ?_)
  |(with_reducible refine aO ?_)
  |(with_reducible refine au (λ_=>?_) (λ_=>?_))
  |(with_reducible refine bW (λ_=>?_) (λ_=>?_))
  |refine OnB.mk (λ_=>?_) (λ_=>?_)
  |refine Drw.mk (by kernel_rfl) ?_
  |refine Ends.mk ?_))
 all_goals (try refine Pr.mk ?_)
 all_goals (try simp only [List.length_map,Int.toNat_natCast] at *)
 all_goals first
  |((conv=>whnf);refine Sw.Loop.inv (α:=Nat) (λx=>[(3,.ptr 3 0),(5,.ptr 5 0),(8,.ptr 8 0),(10,.int .i64 0),(60,.c (.sl 19 (C2.map uD))),(61,.int .i64 (C2.length:Nat)),(62,.int .i64 (x:Nat))]) (λx=>[(3,.var (Bg q)),(5,.var [(.sl 3 (ls.map dw)),.sl 7 (E1.map cO)]),(8,.var [(.sl 3 (ls.map dw)),.sl 7 (E1.map cO)])]) (λx=>x≤C2.length) (λx=>C2.length-x) 0 ?_ ?_ ?_ (λx hx=>?_))
  |skip
 all_goals (repeat' ((try (conv=>whnf));first
  |refine aH ?_
  |refine ak ?_ ?_
  |(with_reducible refine aK ?_)
  |(with_reducible refine aO ?_)
  |(with_reducible refine au (λ_=>?_) (λ_=>?_))
  |refine Drw.mk (by kernel_rfl) ?_
  |refine aS C0 ?_ ?_
  |refine Ends.mk ?_))
 all_goals (try refine Pr.mk ?_)
 all_goals (try simp only [List.length_map,Int.toNat_natCast] at *)
 all_goals (try (with_reducible show UQ _ _ _ _;generalize hcc:C2.getD x C0=c;obtain ⟨kd,en,fi,sr,ds⟩:=c;cases sr<;>cases ds))
 all_goals (repeat' ((try (conv=>whnf));first
  |(with_reducible refine bW (λ_=>?_) (λ_=>?_))
  |refine Ends.mk ?_))
 all_goals (try simp only [List.length_map,Int.toNat_natCast] at *)
 all_goals first
  |trivial
  |omega
  |exact ⟨h1,by omega,h5⟩
  |exact ⟨h1,by omega,k3⟩
  |(exfalso;have h9:=r3 x (by omega);rw [hcc] at h9;dsimp only at h9;omega)
  |((conv=>whnf);exact ⟨x+1,⟨⟨rfl,rfl,rfl,rfl,rfl,rfl,bM (by omega),trivial⟩,⟨rfl,rfl,rfl,trivial⟩,by omega,(by show C2.length-(x+1)<C2.length-x;omega)⟩⟩)⟩
theorem ae4(ls:List LayD)(es:List EntR)(t:Rq):Den Tryz.prog 4 [.agg [(.sl 3 (ls.map dw)),.sl 7 (es.map dh)],.agg (Qz t)] (.bool true):=by
 cases hs:smA ls es t with
 |false=>exact (adA ls es t).den hs
 |true =>
  obtain ⟨g1,g2,g3,g4,q,rfl,g5⟩:=aah hs
  by_cases hv:je ls es=0
  ·by_cases hq:q<0
   ·exact (Y1 ls es q).den ⟨hs,by omega,by omega,g2,g4,.inr hq,by omega⟩
   ·obtain ⟨xs,rfl,hx⟩:=TJ g4 hv;have h:=(acW ls xs q).den ⟨hs,by omega,g2,by simpa using g3,hx,λe he=>g4 _ (List.mem_map_of_mem he),by omega,hq,hv⟩;rw [← vK] at h;exact h
  ·exact (Y1 ls es q).den ⟨hs,by omega,by omega,g2,g4,.inl hv,by omega⟩
end Go.Proofs.YtmniihkenijjpaaGreatDoor
namespace Go.Proofs.YtmniihkenijjpaaGreatDoor
open Go Go.RowKit Go.Sw Go.ChangeShapes Go.WideShapes Go.ChangeAt
set_option maxRecDepth 100000
theorem yI:∀xs,MI [.cons (.slice (.cons (.str) (.cons (.int .i64) (.cons (.int .i64) .nil)))) (.cons (.slice (.cons (.int .i64) (.cons (.str) (.cons (.slice (.cons (.cons (.cons (.bool) (.cons (.slice (.int .u32)) .nil)) (.cons (.cons (.bool) (.cons (.slice (.int .u32)) .nil)) .nil)) (.cons (.cons (.cons (.bool) (.cons (.slice (.int .u32)) .nil)) (.cons (.cons (.bool) (.cons (.slice (.int .u32)) .nil)) .nil)) .nil))) (.cons (.cons (.cons (.bool) (.cons (.slice (.int .u32)) .nil)) (.cons (.cons (.bool) (.cons (.slice (.int .u32)) .nil)) .nil)) .nil))))) .nil),.cons (.cons (.bool) (.cons (.slice (.int .u32)) .nil)) (.cons (.cons (.bool) (.cons (.slice (.int .u32)) .nil)) .nil)] xs→Den Tryz.prog 4 xs (.bool true):=by
 rintro xs ⟨_,_,⟨_,h,rfl⟩,⟨_,_,⟨_,h2,rfl⟩,rfl,rfl⟩,rfl⟩;obtain ⟨ls,es,rfl⟩:=Xe h;obtain ⟨t,rfl⟩:=Eo h2
 try simp only [List.append_nil,List.nil_append,List.cons_append]
 exact ae4 ls es t
theorem uX{W:World}(h:laidMetH Tryz.prog Rows.repairTwiceRow.laid W):Wld.ok Tryz.prog W:=by
 rw [MakeChecks.laidMetH_plain _ _ _ (by kernel_rfl)] at h
 exact ⟨aaG (zs:=Lib.pow10Tab) (g:=1) (t:=353) (e:=152) h (List.mem_of_getElem? (i:=2) (by kernel_rfl)) (by kernel_rfl) (by kernel_rfl) Tryz.underlying353 Tryz.underlying152 (by kernel_rfl) (by kernel_rfl),
  XD (nm := "swarf/drawing.shapes") (xs:=[(⟨#[]⟩,0),(⟨#[108,105,110,101]⟩,2),(⟨#[97,114,99]⟩,3),(⟨#[99,105,114,99,108,101]⟩,1)]) (g:=0) (t:=172) (e:=171) h (List.mem_of_getElem? (i:=3) (by kernel_rfl)) (by kernel_rfl) (by kernel_rfl) Tryz.underlying172 Tryz.underlying171 (by kernel_rfl) (by kernel_rfl) rfl rfl (by kernel_rfl) (by kernel_rfl) (by kernel_rfl)⟩
set_option maxHeartbeats 800000 in
theorem uq(os:Os)(started:os.Started)(H:Type)(enc:TypeId × Value→H):
 ReturnsInHanded {} Tryz.checked os 4 .any (λw args=>(Rows.repairTwiceSpec.pre enc Tryz.prog Tryz.f4 [] false w args∧laidMetH Tryz.prog Rows.repairTwiceRow.laid w)∧sizedMet enc Tryz.prog Tryz.f4 (OpenSpec.ofChange Rows.repairTwiceSpec) false w args) (Rows.repairTwiceSpec.post enc Tryz.prog Tryz.f4 false true false false):=by
 refine returnsInHanded_of_change_and (C:=Tryz.checked) (X:=λw _=>laidMetH Tryz.prog Rows.repairTwiceRow.laid w) (λ_ _ _ hh h=>h.of_heap hh) Tryz.own started (by kernel_rfl) Tryz.func4
  (ChangeSpec.witness_shaped (enc:=enc) (C:=Tryz.checked) (os:=os) (X:=λw _=>laidMetH Tryz.prog Rows.repairTwiceRow.laid w) false (World.laidAll Tryz.prog os Rows.repairTwiceRow.laid) #[.agg #[.slice none 0 0,.slice none 0 0],.agg #[.bool false,.slice none 0 0,.bool false,.slice none 0 0]] 12 (World.laidAll_os _ _ _)
   (World.shaped_of_ZipB (by kernel_rfl) (by kernel_rfl)) (by kernel_rfl) (by kernel_rfl) (by kernel_rfl)
   (by rw [MakeChecks.laidMetH_plain _ _ _ (by kernel_rfl)];exact laidMet_laidAll _ (by kernel_rfl) (by kernel_rfl))) ?_
 intro W base args ds gs before hval0 hW _ _ hL _;have hW':=hW;obtain ⟨p,q,hA0,hV,rfl,_,_⟩:=hW;have hA:DataW.TrodAll enc Tryz.prog W 0 (λ_=>true) true Tryz.f4.params.toList args.toList ds p:=hA0;obtain ⟨rfl,rfl⟩:=trodVars_none hV;obtain ⟨d0,d1,rfl⟩:=len2 (show ds.length=2 from xX hA);simp only [List.append_nil] at hW';have hlt:∀x∈p,x.block<W.heap.size:=λx hx=>by simpa using hW'.lt x hx
 refine (XJ (Ts:=[.cons (.slice (.cons (.str) (.cons (.int .i64) (.cons (.int .i64) .nil)))) (.cons (.slice (.cons (.int .i64) (.cons (.str) (.cons (.slice (.cons (.cons (.cons (.bool) (.cons (.slice (.int .u32)) .nil)) (.cons (.cons (.bool) (.cons (.slice (.int .u32)) .nil)) .nil)) (.cons (.cons (.cons (.bool) (.cons (.slice (.int .u32)) .nil)) (.cons (.cons (.bool) (.cons (.slice (.int .u32)) .nil)) .nil)) .nil))) (.cons (.cons (.cons (.bool) (.cons (.slice (.int .u32)) .nil)) (.cons (.cons (.bool) (.cons (.slice (.int .u32)) .nil)) .nil)) .nil))))) .nil),.cons (.cons (.bool) (.cons (.slice (.int .u32)) .nil)) (.cons (.cons (.bool) (.cons (.slice (.int .u32)) .nil)) .nil)]) (by kernel_rfl) yI (λj t v hj ha=>hval0 j t v (by simpa using hj) (by simpa using ha)) hA (uX hL)).mono λe W' he=>?_
 obtain ⟨_,rfl,rfl,hb⟩:=he;refine ⟨_,rfl,_,_,_,[],_,[],hW', ?_,tq Tryz.laidOut hb (by kernel_rfl) hlt hA,rfl,hb.frame _,λh=>by cases h⟩;exact trodAll_mk1 (shut_bool Tryz.underlying4 _)
theorem yH:Rows.RepairTwiceSaid :=
 OpenClaim.holds_of_wide 4 Tryz.f4 rfl rfl rfl rfl rfl rfl rfl ⟨rfl,rfl,rfl,rfl,rfl⟩ rfl rfl rfl rfl rfl (by kernel_rfl) Tryz.func4 vw
  (of_decide_eq_true (by kernel_rfl)) (by unfold Func.isWrapper;first|(rw [if_pos (by decide +kernel)];kernel_rfl)|(rw [if_neg (by decide +kernel)];exact ⟨rfl,rfl⟩))
  (λos started H enc _=>uq os started H enc)
theorem RepairTwice_holds:Rows.RepairTwiceCardSaid :=
 Claim7.holds_tied_plain_at .later [] [.data,.data,.data,.data] true (true,"f3ac26bbc19fa5dd170bbef99dadcbcd1f24a254e3c8ae9d56f844f18c3416bf") false yH (λ_ h=>by cases h) (by kernel_rfl) (λ_ h=>by cases h) repairTwice_row_tie rfl ⟨rfl,rfl⟩ wG rfl
  (λf fn hf hfn=>by
   obtain rfl:f=4:=Option.some.inj ((show Tryz.prog.funcNamed "swarf/swarflaw23.RepairTwice" = some 4 by kernel_rfl).symm.trans hf) |>.symm;obtain rfl:fn=Tryz.f4:=(Option.some.inj (Tryz.func4.symm.trans hfn)).symm
   exact ⟨uG,λj t ht=>by
    have hm:t∈Tryz.f4.params.toList:=Array.mem_toList_iff.2 (Array.mem_of_getElem? ht);have hall:(Tryz.f4.params.toList.all λu=>!Tryz.prog.wantsStandIn u)=true:=by kernel_rfl
    exact (show Tryz.prog.wantsStandIn t=false by simpa using List.all_eq_true.1 hall t hm)⟩)
  xJ
#print axioms RepairTwice_holds
end Go.Proofs.YtmniihkenijjpaaGreatDoor
