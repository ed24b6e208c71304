/-
  What the functions swarflaw23.RepairEnds, swarflaw23.RepairEnds, swarflaw23.RepairEnds answer, each out of its text by the abstract run.
  Ends gives the ends of an entity as the specification says, whatever its fields: the law returns true for every entity.
  Conditions: none.
-/
import Derived.Test.YtmniihkenijjpaaGreatDoorGRepairEnds
import Derived.Shelf.LaysM
import Derived.Shelf.Strconv.Itoa1
import Derived.Shelf.Strconv.Itoa2
import Derived.Lib.Walk
import Derived.Lib.ItoaMem
import Derived.Lib.ItoaLen
import Derived.Lib.AppendIntMem
import Derived.WalkKit
import Derived.BigCall
import Derived.BigGuard
import Derived.Shelf.SlicesE.Clone
set_option linter.all false
namespace Go.Proofs.YtmniihkenijjpaaGreatDoor
open Go Go.RowKit Go.Sw Go.Shelf
set_option maxRecDepth 100000
set_option maxHeartbeats 8000000
set_option synthInstance.maxSize 4000
set_option synthInstance.maxHeartbeats 400000
instance acT(ly:ByteArray)(a b:Rq × Rq)(rd:Rq):DenI Tryz.prog 8 [.agg [.v (.int .i64 1),.v (.string ly),.sl 8 [dK a,dK b],.v (.bool rd.a),aX rd.l,.v (.bool rd.b),aX rd.m]] (True) (.bool true):=⟨λhp=>by
 refine afh Tryz.func8 rfl ?_
 all_goals (repeat' ((try (conv=>whnf));first
  |refine aI ?_
  |refine ak ?_ ?_
  |(with_reducible refine aO ?_)
  |(with_reducible refine aT ?_)
  |(with_reducible refine au (λ_=>?_) (λ_=>?_))
  |refine OnB.mk (λ_=>?_) (λ_=>?_)
  |refine bH ?_ ?_
  |refine Drw.mk (by kernel_rfl) ?_
  |refine Ends.mk ?_))
 all_goals (try refine Pr.mk ?_)
 all_goals (try simp only [List.length_map,Int.toNat_natCast] at *)
 all_goals first
  |trivial
  |omega⟩
instance acD(ly:ByteArray)(a m b:Rq × Rq)(rd:Rq):DenI Tryz.prog 8 [.agg [.v (.int .i64 2),.v (.string ly),.sl 8 [dK a,dK m,dK b],.v (.bool rd.a),aX rd.l,.v (.bool rd.b),aX rd.m]] (True) (.bool true):=⟨λhp=>by
 refine afh Tryz.func8 rfl ?_
 all_goals (repeat' ((try (conv=>whnf));first
  |refine aI ?_
  |refine ak ?_ ?_
  |(with_reducible refine aO ?_)
  |(with_reducible refine aT ?_)
  |(with_reducible refine au (λ_=>?_) (λ_=>?_))
  |refine OnB.mk (λ_=>?_) (λ_=>?_)
  |refine bH ?_ ?_
  |refine Drw.mk (by kernel_rfl) ?_
  |refine Ends.mk ?_))
 all_goals (try refine Pr.mk ?_)
 all_goals (try simp only [List.length_map,Int.toNat_natCast] at *)
 all_goals first
  |trivial
  |omega⟩
instance (priority:=50) adw(kd:Int)(ly:ByteArray)(pts:List (Rq × Rq))(rd:Rq):DenI Tryz.prog 8 [.agg [.v (.int .i64 kd),.v (.string ly),.sl 8 (pts.map dK),.v (.bool rd.a),aX rd.l,.v (.bool rd.b),aX rd.m]] (¬(kd=1∧pts.length=2∨kd=2∧pts.length=3)) (.bool true):=⟨λhp=>by
 haveI q1:=aac kd ly pts rd
 haveI q2:=aa1 kd ly pts rd
 all_goals refine afh Tryz.func8 rfl ?_
 all_goals (repeat' ((try (conv=>whnf));first
  |refine aI ?_
  |refine ak ?_ ?_
  |refine fO ?_ (λ_=>?_) (λ_=>?_)
  |(with_reducible refine aO ?_)
  |(with_reducible refine aT ?_)
  |(with_reducible refine au (λ_=>?_) (λ_=>?_))
  |(with_reducible refine dn (λ_=>?_) (λ_=>?_))
  |refine OnB.mk (λ_=>?_) (λ_=>?_)
  |refine bH ?_ ?_
  |refine Drw.mk (by kernel_rfl) ?_
  |refine iD ?_ ?_
  |refine iV ?_ ?_
  |(with_reducible refine dH ?_ ?_)
  |(with_reducible refine dA ?_)
  |(with_reducible refine dN ?_)
  |(with_reducible refine Iz ?_)
  |refine Ends.mk ?_))
 all_goals (try refine Pr.mk ?_)
 all_goals (try simp only [List.length_map,Int.toNat_natCast] at *)
 all_goals first
  |trivial
  |rfl
  |omega
  |(exfalso;omega)
  |exact hp
  |(exfalso;simp at *;done)
  |(simp only [List.length_cons,List.length_nil];omega)
  |(simp only [List.length_map];omega)
  |skip⟩
instance (priority:=2000) Xv(e:EntR):DenI Tryz.prog 8 [.agg (oM e)] True (.bool true):=⟨λ_=>by
 obtain ⟨kd,ly,pts,rd⟩:=e
 by_cases h:kd=1∧pts.length=2∨kd=2∧pts.length=3
 ·rcases h with ⟨rfl,h⟩|⟨rfl,h⟩
  ·match pts,h with
   |[a,b],_=>exact (acT ly a b rd).den trivial
  ·match pts,h with
   |[a,m,b],_=>exact (acD ly a m b rd).den trivial
 ·exact (adw kd ly pts rd).den h⟩
end Go.Proofs.YtmniihkenijjpaaGreatDoor
namespace Go.Proofs.YtmniihkenijjpaaGreatDoor
open Go Go.RowKit Go.Sw Go.ChangeShapes Go.WideShapes Go.ChangeAt
set_option maxRecDepth 100000
theorem yU:∀xs,JU [.cons (.int .i64) (.cons (.str) (.cons (.slice (.cons (.cons (.cons (.bool) (.cons (.slice (.int .u32)) .nil)) (.cons (.cons (.bool) (.cons (.slice (.int .u32)) .nil)) .nil)) (.cons (.cons (.cons (.bool) (.cons (.slice (.int .u32)) .nil)) (.cons (.cons (.bool) (.cons (.slice (.int .u32)) .nil)) .nil)) .nil))) (.cons (.cons (.cons (.bool) (.cons (.slice (.int .u32)) .nil)) (.cons (.cons (.bool) (.cons (.slice (.int .u32)) .nil)) .nil)) .nil)))] xs→Den Tryz.prog 8 xs (.bool true):=by
 rintro xs ⟨_,_,⟨_,h,rfl⟩,rfl,rfl⟩;obtain ⟨e,rfl,_⟩:=SX h
 try simp only [List.append_nil,List.nil_append,List.cons_append]
 exact (Xv e).den trivial
theorem uN{W:World}(h:laidMetH Tryz.prog Rows.repairEndsRow.laid W):Wld.ok Tryz.prog W:=by
 rw [MakeChecks.laidMetH_plain _ _ _ (by kernel_rfl)] at h
 exact ⟨XG (zs:=Lib.pow10Tab) (g:=1) (t:=353) (e:=152) h (List.mem_of_getElem? (i:=2) (by kernel_rfl)) (by kernel_rfl) (by kernel_rfl) Tryz.underlying353 Tryz.underlying152 (by kernel_rfl) (by kernel_rfl),
  Uk (nm := "swarf/drawing.shapes") (xs:=[(⟨#[]⟩,0),(⟨#[108,105,110,101]⟩,2),(⟨#[97,114,99]⟩,3),(⟨#[99,105,114,99,108,101]⟩,1)]) (g:=0) (t:=172) (e:=171) h (List.mem_of_getElem? (i:=3) (by kernel_rfl)) (by kernel_rfl) (by kernel_rfl) Tryz.underlying172 Tryz.underlying171 (by kernel_rfl) (by kernel_rfl) rfl rfl (by kernel_rfl) (by kernel_rfl) (by kernel_rfl)⟩
set_option maxHeartbeats 800000 in
theorem um(os:Os)(started:os.Started)(H:Type)(enc:TypeId × Value→H):
 ReturnsInHanded {} Tryz.checked os 8 .any (λw args=>(Rows.repairEndsSpec.pre enc Tryz.prog Tryz.f8 [] false w args∧laidMetH Tryz.prog Rows.repairEndsRow.laid w)∧sizedMet enc Tryz.prog Tryz.f8 (OpenSpec.ofChange Rows.repairEndsSpec) false w args) (Rows.repairEndsSpec.post enc Tryz.prog Tryz.f8 false true false false):=by
 refine returnsInHanded_of_change_and (C:=Tryz.checked) (X:=λw _=>laidMetH Tryz.prog Rows.repairEndsRow.laid w) (λ_ _ _ hh h=>h.of_heap hh) Tryz.own started (by kernel_rfl) Tryz.func8
  (ChangeSpec.witness_shaped (enc:=enc) (C:=Tryz.checked) (os:=os) (X:=λw _=>laidMetH Tryz.prog Rows.repairEndsRow.laid w) false (World.laidAll Tryz.prog os Rows.repairEndsRow.laid) #[.agg #[.int .i64 0,.string ByteArray.empty,.slice none 0 0,.bool false,.slice none 0 0,.bool false,.slice none 0 0]] 12 (World.laidAll_os _ _ _)
   (World.shaped_of_ZipB (by kernel_rfl) (by kernel_rfl)) (by kernel_rfl) (by kernel_rfl) (by kernel_rfl)
   (by rw [MakeChecks.laidMetH_plain _ _ _ (by kernel_rfl)];exact laidMet_laidAll _ (by kernel_rfl) (by kernel_rfl))) ?_
 intro W base args ds gs before hval0 hW _ _ hL _;have hW':=hW;obtain ⟨p,q,hA0,hV,rfl,_,_⟩:=hW;have hA:DataW.TrodAll enc Tryz.prog W 0 (λ_=>true) true Tryz.f8.params.toList args.toList ds p:=hA0;obtain ⟨rfl,rfl⟩:=trodVars_none hV;obtain ⟨d0,rfl⟩:=len1 (show ds.length=1 from wI hA);simp only [List.append_nil] at hW';have hlt:∀x∈p,x.block<W.heap.size:=λx hx=>by simpa using hW'.lt x hx
 refine (SS (Ts:=[.cons (.int .i64) (.cons (.str) (.cons (.slice (.cons (.cons (.cons (.bool) (.cons (.slice (.int .u32)) .nil)) (.cons (.cons (.bool) (.cons (.slice (.int .u32)) .nil)) .nil)) (.cons (.cons (.cons (.bool) (.cons (.slice (.int .u32)) .nil)) (.cons (.cons (.bool) (.cons (.slice (.int .u32)) .nil)) .nil)) .nil))) (.cons (.cons (.cons (.bool) (.cons (.slice (.int .u32)) .nil)) (.cons (.cons (.bool) (.cons (.slice (.int .u32)) .nil)) .nil)) .nil)))]) (by kernel_rfl) yU (λj t v hj ha=>hval0 j t v (by simpa using hj) (by simpa using ha)) hA (uN hL)).mono λe W' he=>?_
 obtain ⟨_,rfl,rfl,hb⟩:=he;refine ⟨_,rfl,_,_,_,[],_,[],hW', ?_,ru Tryz.laidOut hb (by kernel_rfl) hlt hA,rfl,hb.frame _,λh=>by cases h⟩;exact trodAll_mk1 (shut_bool Tryz.underlying4 _)
theorem xR:Rows.RepairEndsSaid :=
 OpenClaim.holds_of_wide 8 Tryz.f8 rfl rfl rfl rfl rfl rfl rfl ⟨rfl,rfl,rfl,rfl,rfl⟩ rfl rfl rfl rfl rfl (by kernel_rfl) Tryz.func8 vH
  (of_decide_eq_true (by kernel_rfl)) (by unfold Func.isWrapper;first|(rw [if_pos (by decide +kernel)];kernel_rfl)|(rw [if_neg (by decide +kernel)];exact ⟨rfl,rfl⟩))
  (λos started H enc _=>um os started H enc)
theorem RepairEnds_holds:Rows.RepairEndsCardSaid :=
 Claim7.holds_tied_plain_at .later [] [.data,.data,.data,.data] true (true,"f3ac26bbc19fa5dd170bbef99dadcbcd1f24a254e3c8ae9d56f844f18c3416bf") false xR (λ_ h=>by cases h) (by kernel_rfl) (λ_ h=>by cases h) repairEnds_row_tie rfl ⟨rfl,rfl⟩ wV rfl
  (λf fn hf hfn=>by
   obtain rfl:f=8:=Option.some.inj ((show Tryz.prog.funcNamed "swarf/swarflaw23.RepairEnds" = some 8 by kernel_rfl).symm.trans hf) |>.symm;obtain rfl:fn=Tryz.f8:=(Option.some.inj (Tryz.func8.symm.trans hfn)).symm
   exact ⟨uJ,λj t ht=>by
    have hm:t∈Tryz.f8.params.toList:=Array.mem_toList_iff.2 (Array.mem_of_getElem? ht);have hall:(Tryz.f8.params.toList.all λu=>!Tryz.prog.wantsStandIn u)=true:=by kernel_rfl
    exact (show Tryz.prog.wantsStandIn t=false by simpa using List.all_eq_true.1 hall t hm)⟩)
  wP
#print axioms RepairEnds_holds
end Go.Proofs.YtmniihkenijjpaaGreatDoor
