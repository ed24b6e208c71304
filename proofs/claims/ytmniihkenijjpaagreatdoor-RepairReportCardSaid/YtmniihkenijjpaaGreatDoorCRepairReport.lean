/-
  What the functions swarflaw23.back, swarfref23.Equal, swarflaw23.RepairReport, swarflaw23.RepairReport, swarflaw23.RepairReport answer, each out of its text by the abstract run.
  Repair gives the repaired drawing and the report that the rule leads to, or the specified error: the law returns true for every drawing and tolerance.
  Conditions: none.
-/
import Derived.Test.YtmniihkenijjpaaGreatDoorGRepairReport
import Derived.Shelf.LaysM
import Derived.Shelf.Strconv.Itoa1
import Derived.Shelf.Strconv.Itoa2
import Derived.Lib.Walk
import Derived.Lib.ItoaMem
import Derived.Lib.ItoaLen
import Derived.Lib.AppendIntMem
import Derived.WalkKit
import Derived.BigCall
import Derived.BigGuard
import Derived.Shelf.SlicesE.Clone
set_option linter.all false
namespace Go.Proofs.YtmniihkenijjpaaGreatDoor
open Go Go.RowKit Go.Sw Go.Shelf
set_option maxRecDepth 100000
set_option maxHeartbeats 16000000
set_option synthInstance.maxSize 4000
set_option synthInstance.maxHeartbeats 400000
instance(priority:=2000) aeS:DenI Tryz.prog 18 [.c (.sl 0 [])] (True) (.c (.sl 0 [])):=⟨λhp=>by
 refine aC Tryz.func18 rfl ?_
 all_goals first
  |((conv=>whnf);refine Sw.Loop.unroll ?_)
 all_goals(repeat'((try rw[Ez]);(try rw[Aw]);(try(conv=>whnf));first
  |refine dY (by simp only[List.length_cons,List.length_nil];decide) ?_|apply zaq))
 all_goals first
  |trivial⟩
instance(priority:=2000) aeY:DenI Tryz.prog 17 [.c (.sl 0 []),.c (.sl 0 [])] (True) (.bool true):=⟨λhp=>by
 refine aC Tryz.func17 rfl ?_
 all_goals(repeat'((try(conv=>whnf));first
  |(with_reducible refine zae (λ_=>?_) (λ_=>?_))|apply zaq))
 all_goals first
  |((conv=>whnf);refine Sw.Loop.unroll ?_)|skip
 all_goals(repeat'((try rw[Ez]);(try rw[Aw]);(try(conv=>whnf));first
  |refine dY (by simp only[List.length_cons,List.length_nil];decide) ?_|apply zaq))
 all_goals(try simp only[List.length_map,Int.toNat_natCast]at *)
 all_goals first
  |trivial⟩
theorem GR(cs:List Chn):(cs.map rawCh).map uP=cs.map jF:=by
 rw[List.map_map];exact List.map_congr_left λc _=>Qm c
instance(priority:=1500) afS(cs:List Chn):DenI Tryz.prog 18 [.c (.sl 19 (cs.map jF))] (cs.length<=1000) (.c (.sl 19 (cs.map jF))):=⟨λh=>by
 have h2:=(Q9 (cs.map rawCh)).den (by rw[List.length_map];exact h)
 rw[GR]at h2;exact h2⟩
instance(priority:=1500) afL(cs:List Chn):DenI Tryz.prog 17 [.c (.sl 19 (cs.map jF)),.c (.sl 19 (cs.map jF))] (cs.length<=1000) (.bool true):=⟨λh=>by
 have h2:=(YM (cs.map rawCh)).den (by rw[List.length_map];exact h)
 rw[GR]at h2;exact h2⟩
instance(priority:=40) Yt(ls:List LayD)(es:List EntR)(t:Rq):DenI Tryz.prog 3 [.agg [(.sl 3 (ls.map aV)),.sl 7 (es.map aY)],.agg (Gs t)] (smA ls es t=false) (.bool true):=⟨λhp=>by
 refine aC Tryz.func3 rfl ?_
 all_goals(repeat'((try(conv=>whnf));first
  |apply zaf|refine zaa ?_ ?_|(with_reducible first|apply zab|apply zac)|refine zat (λ_=>?_) (λ_=>?_)|apply zaq))
 all_goals(try apply zar)
 all_goals(try simp only[List.length_map,Int.toNat_natCast]at *)
 all_goals first
  |trivial|(exfalso;simp_all;done)⟩
instance(priority:=50) TN(ls:List LayD)(es:List EntR)(q:Rat):DenI Tryz.prog 3 [.agg [(.sl 3 (ls.map aV)),.sl 7 (es.map aY)],R q] (smA ls es (iR q)=true/\ls.length<=1000/\es.length<=1000/\(∀l∈ls,l.name.size<=1000)/\(∀e∈es,kE e)/\(dZ ls es≠0\/q<0)/\rz q<=12) (.bool true):=⟨λhp=>by
 obtain⟨hs,hp⟩:=hp;have hp1:=hp;obtain⟨h1,h2,h3,h4,h5,h6⟩:=hp1;generalize hcd:(if dZ ls es≠0 then dZ ls es else 1)=cd
 haveI i1:DenI Tryz.prog 13 [.agg [(.sl 3 (ls.map aV)),.sl 7 (es.map aY)],R q] True (.tup [.agg [.sl 3 [],.sl 7 []],.c (.sl 0 []),.int .i64 cd]):=⟨λ_=>by have h:=(YH ls es q).den hp;rwa [hcd]at h⟩
 haveI i2:DenI Tryz.prog 15 [.agg [(.sl 3 (ls.map aV)),.sl 7 (es.map aY)],R q] True (.tup [.agg [.sl 3 [],.sl 7 []],.c (.sl 0 []),.int .i64 cd]):=⟨λ_=>by have h:=(VE ls es q).den hp;rwa [hcd]at h⟩
 haveI i3:DenI Tryz.prog 16 [.agg [.sl 3 [],.sl 7 []],.agg [.sl 3 [],.sl 7 []]] True (.bool true):=⟨λ_=>(UD [] []).den ⟨η,η,λe he=>by cases he⟩⟩
 all_goals refine aC Tryz.func3 rfl ?_
 all_goals(repeat'((try(conv=>whnf));first
  |apply zaf|refine zaa ?_ ?_|(with_reducible first|apply zab|apply zac|refine zad (λ_=>?_) (λ_=>?_))|refine zat (λ_=>?_) (λ_=>?_)|refine zas ζ ?_|apply zaq))
 all_goals(try apply zar)
 all_goals(try simp only[List.length_map,Int.toNat_natCast]at *)
 all_goals first
  |trivial⟩
instance(priority:=60) YJ(ls:List LayD)(es:List Ent)(q:Rat):DenI Tryz.prog 3 [.agg [(.sl 3 (ls.map aV)),.sl 7 (es.map aK)],R q] (smA ls (es.map bW) (iR q)=true/\ls.length<=1000/\(∀l∈ls,l.name.size<=1000)/\es.length<=12/\(∀e∈es,okV e)/\(∀e∈es,kE (bW e))/\rz q<=12/\¬q<0/\dZ ls (es.map bW)=0) (.bool true):=⟨λhp=>by
 obtain⟨hs,hp⟩:=hp;have hp1:=hp;obtain⟨h1,h2,h3,h4,h5,h6,h7,h8⟩:=hp1;obtain⟨k1,k2,k3,k4⟩:=Jh (q:=q) h3 h4 h5 h8;have hcl:=Hr (tol:=q) h3 h4;have kp:=(Hz ls es q).den hp;have kq:=(Xp ls es q).den hp;generalize(aO (q*q) es).es=E1 at *;generalize(aO (q*q) es).cs=C1 at *
 haveI i1:DenI Tryz.prog 13 [.agg [(.sl 3 (ls.map aV)),.sl 7 (es.map aK)],R q] True (.tup [.agg [(.sl 3 (ls.map aV)),.sl 7 (E1.map aK)],.c (.sl 19 (C1.map jF)),.int .i64 0]):=⟨λ_=>kp⟩
 haveI i2:DenI Tryz.prog 15 [.agg [(.sl 3 (ls.map aV)),.sl 7 (es.map aK)],R q] True (.tup [.agg [(.sl 3 (ls.map aV)),.sl 7 (E1.map aK)],.c (.sl 19 (C1.map jF)),.int .i64 0]):=⟨λ_=>kq⟩
 all_goals refine aC Tryz.func3 rfl ?_
 all_goals(repeat'((try(conv=>whnf));first
  |apply zaf|refine zaa ?_ ?_|(with_reducible first|apply zab|apply zac|refine zad (λ_=>?_) (λ_=>?_))|refine zat (λ_=>?_) (λ_=>?_)|refine zas ζ ?_|apply zaq))
 all_goals(try apply zar)
 all_goals(try simp only[List.length_map,Int.toNat_natCast]at *)
 all_goals first
  |trivial|exact⟨h1,ω,h5⟩|exact⟨h1,ω,k3⟩⟩
theorem adr(ls:List LayD)(es:List EntR)(t:Rq):Den Tryz.prog 3 [.agg [(.sl 3 (ls.map aV)),.sl 7 (es.map aY)],.agg (Gs t)] (.bool true):=by
 cases hs:smA ls es t with
 |false=>exact(Yt ls es t).den hs
 |true =>
  obtain⟨g1,g2,g3,g4,q,rfl,g5⟩:=U3 hs
  by_cases hv:dZ ls es=0
  .by_cases hq:q<0
   .exact(TN ls es q).den ⟨hs,ω,ω,g2,g4,.inr hq,ω⟩
   .obtain⟨xs,rfl,hx⟩:=OA g4 hv;have h:=(YJ ls xs q).den ⟨hs,ω,g2,by simpa using g3,hx,λe he=>g4 _ (List.mem_map_of_mem he),ω,hq,hv⟩;rw[<-qP]at h;exact h
  .exact(TN ls es q).den ⟨hs,ω,ω,g2,g4,.inl hv,ω⟩
end Go.Proofs.YtmniihkenijjpaaGreatDoor
namespace Go.Proofs.YtmniihkenijjpaaGreatDoor
open Go Go.RowKit Go.Sw Go.ChangeShapes Go.WideShapes Go.ChangeAt
set_option maxRecDepth 100000
theorem tN:∀xs,FitAs [.cons (.slice (.cons (.str) (.cons (.int .i64) (.cons (.int .i64) .nil)))) (.cons (.slice (.cons (.int .i64) (.cons (.str) (.cons (.slice (.cons (.cons (.cons (.bool) (.cons (.slice (.int .u32)) .nil)) (.cons (.cons (.bool) (.cons (.slice (.int .u32)) .nil)) .nil)) (.cons (.cons (.cons (.bool) (.cons (.slice (.int .u32)) .nil)) (.cons (.cons (.bool) (.cons (.slice (.int .u32)) .nil)) .nil)) .nil))) (.cons (.cons (.cons (.bool) (.cons (.slice (.int .u32)) .nil)) (.cons (.cons (.bool) (.cons (.slice (.int .u32)) .nil)) .nil)) .nil))))) .nil),.cons (.cons (.bool) (.cons (.slice (.int .u32)) .nil)) (.cons (.cons (.bool) (.cons (.slice (.int .u32)) .nil)) .nil)] xs->Den Tryz.prog 3 xs (.bool true):=by
 rintro xs ⟨_,_,⟨_,h,rfl⟩,⟨_,_,⟨_,h2,rfl⟩,rfl,rfl⟩,rfl⟩;obtain⟨ls,es,rfl⟩:=SS h;obtain⟨t,rfl⟩:=BA h2
 try simp only[List.append_nil,List.nil_append,List.cons_append]
 exact adr ls es t
theorem pW{W:World}(h:laidMetH Tryz.prog Rows.repairReportRow.laid W):Wld.ok Tryz.prog W:=by
 rw[MakeChecks.laidMetH_plain _ _ _ ζ]at h
 exact⟨tab_of (zs:=Lib.pow10Tab) (g:=1) (t:=353) (e:=152) h (List.mem_of_getElem? (i:=2) ζ) ζ ζ Tryz.underlying353 Tryz.underlying152 ζ ζ,
  QL (nm := "swarf/drawing.shapes") (xs:=[(⟨#[]⟩,0),(⟨#[108,105,110,101]⟩,2),(⟨#[97,114,99]⟩,3),(⟨#[99,105,114,99,108,101]⟩,1)]) (g:=0) (t:=172) (e:=171) h (List.mem_of_getElem? (i:=3) ζ) ζ ζ Tryz.underlying172 Tryz.underlying171 ζ ζ rfl rfl ζ ζ ζ⟩
theorem o9(os:Os)(started:os.Started)(H:Type)(enc:TypeId×Value->H):
 ReturnsInHanded {} Tryz.checked os 3 .any (λw args=>(Rows.repairReportSpec.pre enc Tryz.prog Tryz.f3 [] false w args/\laidMetH Tryz.prog Rows.repairReportRow.laid w)/\sizedMet enc Tryz.prog Tryz.f3 (OpenSpec.ofChange Rows.repairReportSpec) false w args) (Rows.repairReportSpec.post enc Tryz.prog Tryz.f3 false true false false):=by
 refine returnsInHanded_of_change_and (C:=Tryz.checked) (X:=λw _=>laidMetH Tryz.prog Rows.repairReportRow.laid w) (λ_ _ _ hh h=>h.of_heap hh) Tryz.own started ζ Tryz.func3
  (ChangeSpec.witness_shaped (enc:=enc) (C:=Tryz.checked) (os:=os) (X:=λw _=>laidMetH Tryz.prog Rows.repairReportRow.laid w) false (World.laidAll Tryz.prog os Rows.repairReportRow.laid) #[.agg #[.slice none 0 0,.slice none 0 0],.agg #[.bool false,.slice none 0 0,.bool false,.slice none 0 0]] 12 (World.laidAll_os _ _ _)
   (World.shaped_of_ZipB ζ ζ) ζ ζ ζ
   (by rw[MakeChecks.laidMetH_plain _ _ _ ζ];exact laidMet_laidAll _ ζ ζ)) ?_
 intro W base args ds gs before hval0 hW _ _ hL _;have hW':=hW;obtain⟨p,q,hA0,hV,rfl,_,_⟩:=hW;have hA:DataW.TrodAll enc Tryz.prog W 0 (λ_=>true) true Tryz.f3.params.toList args.toList ds p:=hA0;obtain⟨rfl,rfl⟩:=trodVars_none hV;obtain⟨d0,d1,rfl⟩:=len2 (show ds.length=2 from trodAll_len hA);simp only[List.append_nil]at hW';have hlt:∀x∈p,x.block<W.heap.size:=λx hx=>by simpa using hW'.lt x hx
 refine(law_run (Ts:=[.cons (.slice (.cons (.str) (.cons (.int .i64) (.cons (.int .i64) .nil)))) (.cons (.slice (.cons (.int .i64) (.cons (.str) (.cons (.slice (.cons (.cons (.cons (.bool) (.cons (.slice (.int .u32)) .nil)) (.cons (.cons (.bool) (.cons (.slice (.int .u32)) .nil)) .nil)) (.cons (.cons (.cons (.bool) (.cons (.slice (.int .u32)) .nil)) (.cons (.cons (.bool) (.cons (.slice (.int .u32)) .nil)) .nil)) .nil))) (.cons (.cons (.cons (.bool) (.cons (.slice (.int .u32)) .nil)) (.cons (.cons (.bool) (.cons (.slice (.int .u32)) .nil)) .nil)) .nil))))) .nil),.cons (.cons (.bool) (.cons (.slice (.int .u32)) .nil)) (.cons (.cons (.bool) (.cons (.slice (.int .u32)) .nil)) .nil)]) ζ tN (λj t v hj ha=>hval0 j t v (by simpa using hj) (by simpa using ha)) hA (pW hL)).mono λe W' he=>?_
 obtain⟨_,rfl,rfl,hb⟩:=he;refine⟨_,rfl,_,_,_,[],_,[],hW', ?_,trodAll_below Tryz.laidOut hb ζ hlt hA,rfl,hb.frame _,λh=>by cases h⟩;exact trodAll_mk1 (shut_bool Tryz.underlying4 _)
theorem tX:Rows.RepairReportSaid :=
 OpenClaim.holds_of_wide 3 Tryz.f3 rfl rfl rfl rfl rfl rfl rfl ⟨rfl,rfl,rfl,rfl,rfl⟩ rfl rfl rfl rfl rfl ζ Tryz.func3 pR
  (of_decide_eq_true ζ) (by unfold Func.isWrapper;first|(rw[if_pos (by decide +kernel)];kernel_rfl)|(rw[if_neg (by decide +kernel)];exact⟨rfl,rfl⟩))
  (λos started H enc _=>o9 os started H enc)
theorem RepairReport_holds:Rows.RepairReportCardSaid :=
 Claim7.holds_tied_plain_at .later [] [.data,.data,.data,.data] true (true,"f3ac26bbc19fa5dd170bbef99dadcbcd1f24a254e3c8ae9d56f844f18c3416bf") false tX (λ_ h=>by cases h) ζ (λ_ h=>by cases h) repairReport_row_tie rfl ⟨rfl,rfl⟩ rE rfl
  (λf fn hf hfn=>by
   obtain rfl:f=3:=Option.some.inj ((show Tryz.prog.funcNamed "swarf/swarflaw23.RepairReport" = some 3 by kernel_rfl).symm.trans hf) |>.symm;obtain rfl:fn=Tryz.f3:=(Option.some.inj (Tryz.func3.symm.trans hfn)).symm
   exact⟨qw,λj t ht=>by
    have hm:t∈Tryz.f3.params.toList:=Array.mem_toList_iff.2 (Array.mem_of_getElem? ht);have hall:(Tryz.f3.params.toList.all λu=>!Tryz.prog.wantsStandIn u)=true:=ζ
    exact(show Tryz.prog.wantsStandIn t=false by simpa using List.all_eq_true.1 hall t hm)⟩)
  rZ
#print axioms RepairReport_holds
end Go.Proofs.YtmniihkenijjpaaGreatDoor
