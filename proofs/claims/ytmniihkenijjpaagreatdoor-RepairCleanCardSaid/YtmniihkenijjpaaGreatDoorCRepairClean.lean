/-
  What the functions swarflaw23.RepairClean, swarflaw23.RepairClean, swarflaw23.RepairClean answer, each out of its text by the abstract run.
  Clean tells whether a report would contain at most open ends: the law returns true for every drawing and tolerance.
  Conditions: none.
-/
import Derived.Test.YtmniihkenijjpaaGreatDoorGRepairClean
import Derived.Shelf.LaysM
import Derived.Shelf.Strconv.Itoa1
import Derived.Shelf.Strconv.Itoa2
import Derived.Lib.Walk
import Derived.Lib.ItoaMem
import Derived.Lib.ItoaLen
import Derived.Lib.AppendIntMem
import Derived.WalkKit
import Derived.BigCall
import Derived.BigGuard
import Derived.Shelf.SlicesE.Clone
set_option linter.all false
namespace Go.Proofs.YtmniihkenijjpaaGreatDoor
open Go Go.RowKit Go.Sw Go.Shelf
set_option maxRecDepth 100000
set_option maxHeartbeats 8000000
set_option synthInstance.maxSize 4000
set_option synthInstance.maxHeartbeats 400000
instance(priority:=40) YC(ls:List LayD)(es:List EntR)(t:Rq):DenI Tryz.prog 6 [.agg [(.sl 3 (ls.map aW)),.sl 7 (es.map bH)],.agg (JI t)] (smA ls es t=false) (.bool true):=⟨λhp=>by
 refine aC Tryz.func6 rfl ?_
 all_goals(repeat'((try(conv=>whnf));first
  |apply zaf|refine zaa ?_ ?_|(with_reducible first|apply zab|apply zac)|refine zat (λ_=>?_) (λ_=>?_)|apply zaq))
 all_goals(try apply zar)
 all_goals(try simp only[List.length_map,Int.toNat_natCast]at *)
 all_goals first
  |trivial|(exfalso;simp_all;done)⟩
instance(priority:=50) Uu(ls:List LayD)(es:List EntR)(q:Rat):DenI Tryz.prog 6 [.agg [(.sl 3 (ls.map aW)),.sl 7 (es.map bH)],R q] (smA ls es (jD q)=true/\ls.length<=1000/\es.length<=1000/\(∀l∈ls,l.name.size<=1000)/\(∀e∈es,kF e)/\(dS ls es≠0\/q<0)/\rz q<=12) (.bool true):=⟨λhp=>by
 obtain⟨hs,hp⟩:=hp;have hp1:=hp;obtain⟨h1,h2,h3,h4,h5,h6⟩:=hp1
 all_goals refine aC Tryz.func6 rfl ?_
 all_goals(repeat'((try(conv=>whnf));first
  |apply zaf|refine zaa ?_ ?_|(with_reducible first|apply zab|apply zac)|refine zat (λ_=>?_) (λ_=>?_)|refine zas ζ ?_|apply zaq))
 all_goals(try apply zar)
 all_goals first
  |trivial⟩
instance(priority:=60) XZ(ls:List LayD)(es:List Ent)(q:Rat):DenI Tryz.prog 6 [.agg [(.sl 3 (ls.map aW)),.sl 7 (es.map aN)],R q] (smA ls (es.map dM) (jD q)=true/\ls.length<=1000/\(∀l∈ls,l.name.size<=1000)/\es.length<=12/\(∀e∈es,okV e)/\(∀e∈es,kF (dM e))/\rz q<=12/\¬q<0/\dS ls (es.map dM)=0) (.bool true):=⟨λhp=>by
 obtain⟨hs,hp⟩:=hp;have hp1:=hp;obtain⟨h1,h2,h3,h4,h5,h6,h7,h8⟩:=hp1
 all_goals refine aC Tryz.func6 rfl ?_
 all_goals(repeat'((try(conv=>whnf));first
  |apply zaf|refine zaa ?_ ?_|(with_reducible first|apply zab|apply zac)|refine zat (λ_=>?_) (λ_=>?_)|refine zas ζ ?_|apply zaq))
 all_goals(try apply zar)
 all_goals first
  |trivial|exact⟨h1,ω,h5⟩|(refine bE ?_;simp;done)⟩
theorem acf(ls:List LayD)(es:List EntR)(t:Rq):Den Tryz.prog 6 [.agg [(.sl 3 (ls.map aW)),.sl 7 (es.map bH)],.agg (JI t)] (.bool true):=by
 cases hs:smA ls es t with
 |false=>exact(YC ls es t).den hs
 |true =>
  obtain⟨g1,g2,g3,g4,q,rfl,g5⟩:=Xh hs
  by_cases hv:dS ls es=0
  .by_cases hq:q<0
   .exact(Uu ls es q).den ⟨hs,ω,ω,g2,g4,.inr hq,ω⟩
   .obtain⟨xs,rfl,hx⟩:=LV g4 hv;have h:=(XZ ls xs q).den ⟨hs,ω,g2,by simpa using g3,hx,λe he=>g4 _ (List.mem_map_of_mem he),ω,hq,hv⟩;rw[<-uU]at h;exact h
  .exact(Uu ls es q).den ⟨hs,ω,ω,g2,g4,.inl hv,ω⟩
end Go.Proofs.YtmniihkenijjpaaGreatDoor
namespace Go.Proofs.YtmniihkenijjpaaGreatDoor
open Go Go.RowKit Go.Sw Go.ChangeShapes Go.WideShapes Go.ChangeAt
set_option maxRecDepth 100000
theorem uF:∀xs,FitAs [.cons (.slice (.cons (.str) (.cons (.int .i64) (.cons (.int .i64) .nil)))) (.cons (.slice (.cons (.int .i64) (.cons (.str) (.cons (.slice (.cons (.cons (.cons (.bool) (.cons (.slice (.int .u32)) .nil)) (.cons (.cons (.bool) (.cons (.slice (.int .u32)) .nil)) .nil)) (.cons (.cons (.cons (.bool) (.cons (.slice (.int .u32)) .nil)) (.cons (.cons (.bool) (.cons (.slice (.int .u32)) .nil)) .nil)) .nil))) (.cons (.cons (.cons (.bool) (.cons (.slice (.int .u32)) .nil)) (.cons (.cons (.bool) (.cons (.slice (.int .u32)) .nil)) .nil)) .nil))))) .nil),.cons (.cons (.bool) (.cons (.slice (.int .u32)) .nil)) (.cons (.cons (.bool) (.cons (.slice (.int .u32)) .nil)) .nil)] xs->Den Tryz.prog 6 xs (.bool true):=by
 rintro xs ⟨_,_,⟨_,h,rfl⟩,⟨_,_,⟨_,h2,rfl⟩,rfl,rfl⟩,rfl⟩;obtain⟨ls,es,rfl⟩:=QK h;obtain⟨t,rfl⟩:=AB h2
 try simp only[List.append_nil,List.nil_append,List.cons_append]
 exact acf ls es t
theorem qC{W:World}(h:laidMetH Tryz.prog Rows.repairCleanRow.laid W):Wld.ok Tryz.prog W:=by
 rw[MakeChecks.laidMetH_plain _ _ _ ζ]at h
 exact⟨tab_of (zs:=Lib.pow10Tab) (g:=1) (t:=353) (e:=152) h (List.mem_of_getElem? (i:=2) ζ) ζ ζ Tryz.underlying353 Tryz.underlying152 ζ ζ,
  SN (nm := "swarf/drawing.shapes") (xs:=[(⟨#[]⟩,0),(⟨#[108,105,110,101]⟩,2),(⟨#[97,114,99]⟩,3),(⟨#[99,105,114,99,108,101]⟩,1)]) (g:=0) (t:=172) (e:=171) h (List.mem_of_getElem? (i:=3) ζ) ζ ζ Tryz.underlying172 Tryz.underlying171 ζ ζ rfl rfl ζ ζ ζ⟩
set_option maxHeartbeats 800000 in
theorem pR(os:Os)(started:os.Started)(H:Type)(enc:TypeId×Value->H):
 ReturnsInHanded {} Tryz.checked os 6 .any (λw args=>(Rows.repairCleanSpec.pre enc Tryz.prog Tryz.f6 [] false w args/\laidMetH Tryz.prog Rows.repairCleanRow.laid w)/\sizedMet enc Tryz.prog Tryz.f6 (OpenSpec.ofChange Rows.repairCleanSpec) false w args) (Rows.repairCleanSpec.post enc Tryz.prog Tryz.f6 false true false false):=by
 refine returnsInHanded_of_change_and (C:=Tryz.checked) (X:=λw _=>laidMetH Tryz.prog Rows.repairCleanRow.laid w) (λ_ _ _ hh h=>h.of_heap hh) Tryz.own started ζ Tryz.func6
  (ChangeSpec.witness_shaped (enc:=enc) (C:=Tryz.checked) (os:=os) (X:=λw _=>laidMetH Tryz.prog Rows.repairCleanRow.laid w) false (World.laidAll Tryz.prog os Rows.repairCleanRow.laid) #[.agg #[.slice none 0 0,.slice none 0 0],.agg #[.bool false,.slice none 0 0,.bool false,.slice none 0 0]] 12 (World.laidAll_os _ _ _)
   (World.shaped_of_ZipB ζ ζ) ζ ζ ζ
   (by rw[MakeChecks.laidMetH_plain _ _ _ ζ];exact laidMet_laidAll _ ζ ζ)) ?_
 intro W base args ds gs before hval0 hW _ _ hL _;have hW':=hW;obtain⟨p,q,hA0,hV,rfl,_,_⟩:=hW;have hA:DataW.TrodAll enc Tryz.prog W 0 (λ_=>true) true Tryz.f6.params.toList args.toList ds p:=hA0;obtain⟨rfl,rfl⟩:=trodVars_none hV;obtain⟨d0,d1,rfl⟩:=len2 (show ds.length=2 from trodAll_len hA);simp only[List.append_nil]at hW';have hlt:∀x∈p,x.block<W.heap.size:=λx hx=>by simpa using hW'.lt x hx
 refine(law_run (Ts:=[.cons (.slice (.cons (.str) (.cons (.int .i64) (.cons (.int .i64) .nil)))) (.cons (.slice (.cons (.int .i64) (.cons (.str) (.cons (.slice (.cons (.cons (.cons (.bool) (.cons (.slice (.int .u32)) .nil)) (.cons (.cons (.bool) (.cons (.slice (.int .u32)) .nil)) .nil)) (.cons (.cons (.cons (.bool) (.cons (.slice (.int .u32)) .nil)) (.cons (.cons (.bool) (.cons (.slice (.int .u32)) .nil)) .nil)) .nil))) (.cons (.cons (.cons (.bool) (.cons (.slice (.int .u32)) .nil)) (.cons (.cons (.bool) (.cons (.slice (.int .u32)) .nil)) .nil)) .nil))))) .nil),.cons (.cons (.bool) (.cons (.slice (.int .u32)) .nil)) (.cons (.cons (.bool) (.cons (.slice (.int .u32)) .nil)) .nil)]) ζ uF (λj t v hj ha=>hval0 j t v (by simpa using hj) (by simpa using ha)) hA (qC hL)).mono λe W' he=>?_
 obtain⟨_,rfl,rfl,hb⟩:=he;refine⟨_,rfl,_,_,_,[],_,[],hW', ?_,trodAll_below Tryz.laidOut hb ζ hlt hA,rfl,hb.frame _,λh=>by cases h⟩;exact trodAll_mk1 (shut_bool Tryz.underlying4 _)
theorem uG:Rows.RepairCleanSaid :=
 OpenClaim.holds_of_wide 6 Tryz.f6 rfl rfl rfl rfl rfl rfl rfl ⟨rfl,rfl,rfl,rfl,rfl⟩ rfl rfl rfl rfl rfl ζ Tryz.func6 qK
  (of_decide_eq_true ζ) (by unfold Func.isWrapper;first|(rw[if_pos (by decide +kernel)];kernel_rfl)|(rw[if_neg (by decide +kernel)];exact⟨rfl,rfl⟩))
  (λos started H enc _=>pR os started H enc)
theorem RepairClean_holds:Rows.RepairCleanCardSaid :=
 Claim7.holds_tied_plain_at .later [] [.data,.data,.data,.data] true (true,"f3ac26bbc19fa5dd170bbef99dadcbcd1f24a254e3c8ae9d56f844f18c3416bf") false uG (λ_ h=>by cases h) ζ (λ_ h=>by cases h) repairClean_row_tie rfl ⟨rfl,rfl⟩ sU rfl
  (λf fn hf hfn=>by
   obtain rfl:f=6:=Option.some.inj ((show Tryz.prog.funcNamed "swarf/swarflaw23.RepairClean" = some 6 by kernel_rfl).symm.trans hf) |>.symm;obtain rfl:fn=Tryz.f6:=(Option.some.inj (Tryz.func6.symm.trans hfn)).symm
   exact⟨rU,λj t ht=>by
    have hm:t∈Tryz.f6.params.toList:=Array.mem_toList_iff.2 (Array.mem_of_getElem? ht);have hall:(Tryz.f6.params.toList.all λu=>!Tryz.prog.wantsStandIn u)=true:=ζ
    exact(show Tryz.prog.wantsStandIn t=false by simpa using List.all_eq_true.1 hall t hm)⟩)
  sF
#print axioms RepairClean_holds
end Go.Proofs.YtmniihkenijjpaaGreatDoor
