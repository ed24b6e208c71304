/-
  What the functions slices.Equal[[][2]int,[2]int], slices.Equal[[]int,int], swarflaw23.RepairOpen, swarflaw23.RepairOpen, swarflaw23.RepairOpen answer, each out of its text by the abstract run.
  OpenEnds and Duplicates give the specified numbers for each drawing, and nothing for invalid ones: the law returns true for every drawing.
  Conditions: none.
-/
import Derived.Test.YtmniihkenijjpaaGreatDoorGRepairOpen
import Derived.Shelf.LaysM
import Derived.Shelf.Strconv.Itoa1
import Derived.Shelf.Strconv.Itoa2
import Derived.Lib.Walk
import Derived.Lib.ItoaMem
import Derived.Lib.ItoaLen
import Derived.Lib.AppendIntMem
import Derived.WalkKit
import Derived.BigCall
import Derived.BigGuard
import Derived.Shelf.SlicesE.Clone
set_option linter.all false
namespace Go.Proofs.YtmniihkenijjpaaGreatDoor
open Go Go.RowKit Go.Sw Go.Shelf
set_option maxRecDepth 100000
set_option maxHeartbeats 8000000
set_option synthInstance.maxSize 4000
set_option synthInstance.maxHeartbeats 400000
instance amb:DenI Tryz.prog 34 [.c (.sl 0 []),.c (.sl 0 [])] (True) (.bool true):=⟨λhp=>by
 refine acs Tryz.func34 rfl ?_
 all_goals(repeat'((try(conv=>whnf));first
  |(with_reducible refine onB_n (λ_=>?_) (λ_=>?_))|refine Ends.mk ?_))
 all_goals first
  |((conv=>whnf);refine Sw.Loop.inv (α:=Nat) (λx=>[(12,.int .i64 0),(13,.int .i64 0)]) (λx=>[]) (λx=>x≤0∧True) (λx=>x) 0 ?_ ?_ ?_ (λx hx=>?_))|skip
 all_goals(repeat'((try(conv=>whnf));first
  |(with_reducible refine onB_d (λ_=>?_) (λ_=>?_))|refine Ends.mk ?_))
 all_goals first
  |omega|trivial⟩
instance ak2:DenI Tryz.prog 37 [.c (.sl 0 []),.c (.sl 0 [])] (True) (.bool true):=⟨λhp=>by
 refine acs Tryz.func37 rfl ?_
 all_goals(repeat'((try(conv=>whnf));first
  |(with_reducible refine onB_n (λ_=>?_) (λ_=>?_))|refine Ends.mk ?_))
 all_goals first
  |((conv=>whnf);refine Sw.Loop.inv (α:=Nat) (λx=>[(12,.int .i64 0),(13,.int .i64 0)]) (λx=>[]) (λx=>x≤0∧True) (λx=>x) 0 ?_ ?_ ?_ (λx hx=>?_))|skip
 all_goals(repeat'((try(conv=>whnf));first
  |(with_reducible refine onB_d (λ_=>?_) (λ_=>?_))|refine Ends.mk ?_))
 all_goals first
  |omega|trivial⟩
instance(priority:=2000) amf(ls:List LayD)(es:List Ent):DenI Tryz.prog 33 [.agg [(.sl 3 (ls.map dI)),.sl 7 (es.map cO)]] True (.bool (decide ((es.map gQ).length≤12) && KI ls (es.map gQ))):=⟨λ_=>by
 have h:=(ai8 ls (es.map gQ)).den trivial;rw[BJ]at h
 exact h⟩
instance(priority:=40) agi(ls:List LayD)(es:List EntR):DenI Tryz.prog 9 [.agg [(.sl 3 (ls.map dI)),.sl 7 (es.map dP)]] ((decide (es.length≤12) && KI ls es)=false) (.bool true):=⟨λhp=>by
 refine acs Tryz.func9 rfl ?_
 all_goals(repeat'((try(conv=>whnf));first
  |refine call_0 ?_|refine call_i ?_ ?_|(with_reducible first|refine onB_t ?_|refine onB_f ?_)|refine OnB.mk (λ_=>?_) (λ_=>?_)|refine Drw.mk (by kernel_rfl) ?_|refine Ends.mk ?_))
 all_goals(try refine Pr.mk ?_)
 all_goals first
  |trivial|(exfalso;simp_all;done)⟩
instance(priority:=50) afZ(ls:List LayD)(es:List EntR):DenI Tryz.prog 9 [.agg [(.sl 3 (ls.map dI)),.sl 7 (es.map dP)]] ((decide (es.length≤12) && KI ls es)=true∧ls.length≤1000∧es.length≤1000∧(∀l∈ls,l.name.size≤1000)∧(∀e∈es,pJ e)∧kG ls es≠0) (.bool true):=⟨λhp=>by
 obtain⟨hs,hp⟩:=hp;have hp1:=hp;obtain⟨h1,h2,h3,h4,h5⟩:=hp1
 all_goals refine acs Tryz.func9 rfl ?_
 all_goals(repeat'((try(conv=>whnf));first
  |refine call_0 ?_|refine call_i ?_ ?_|(with_reducible first|refine onB_t ?_|refine onB_f ?_)|refine OnB.mk (λ_=>?_) (λ_=>?_)|refine Drw.mk (by kernel_rfl) ?_|refine Ends.mk ?_))
 all_goals(try refine Pr.mk ?_)
 all_goals first
  |trivial⟩
instance(priority:=60) afT(ls:List LayD)(es:List Ent):DenI Tryz.prog 9 [.agg [(.sl 3 (ls.map dI)),.sl 7 (es.map cO)]] ((decide ((es.map gQ).length≤12) && KI ls (es.map gQ))=true∧ls.length≤1000∧(∀l∈ls,l.name.size≤1000)∧es.length≤12∧(∀e∈es,okV e)∧(∀e∈es,pJ (gQ e))∧kG ls (es.map gQ)=0) (.bool true):=⟨λhp=>by
 obtain⟨hs,hp⟩:=hp;have hp1:=hp;obtain⟨h1,h2,h3,h4,h5,h8⟩:=hp1;have hlr:=aaQ es;have hld:=Io (aY es) (aY es).length;have hlq:(aY es).length=es.length:=fM es
 all_goals refine acs Tryz.func9 rfl ?_
 all_goals(repeat'((try(conv=>whnf));first
  |refine call_0 ?_|refine call_i ?_ ?_|(with_reducible first|refine onB_t ?_|refine onB_f ?_)|refine OnB.mk (λ_=>?_) (λ_=>?_)|refine Drw.mk (by kernel_rfl) ?_|refine Ends.mk ?_))
 all_goals(try refine Pr.mk ?_)
 all_goals(try simp only[List.length_map,Int.toNat_natCast]at *)
 all_goals first
  |trivial|exact⟨h1,by omega,h5⟩|omega⟩
theorem ajt(ls:List LayD)(es:List EntR):Den Tryz.prog 9 [.agg [(.sl 3 (ls.map dI)),.sl 7 (es.map dP)]] (.bool true):=by
 cases hs:(decide (es.length≤12)&&KI ls es)with
 |false=>exact(agi ls es).den hs
 |true =>
  have hs2:=hs;rw[Bool.and_eq_true,decide_eq_true_eq]at hs2;obtain⟨g3,hb⟩:=hs2;obtain⟨g1,g2,g4⟩:=ada hb
  by_cases hv:kG ls es=0
  ·obtain⟨xs,rfl,hx⟩:=XC g4 hv;have h:=(afT ls xs).den ⟨hs,by omega,g2,by simpa using g3,hx,λe he=>g4 _ (List.mem_map_of_mem he),hv⟩;rw[←BJ]at h;exact h
  ·exact(afZ ls es).den ⟨hs,by omega,by omega,g2,g4,hv⟩
end Go.Proofs.YtmniihkenijjpaaGreatDoor
namespace Go.Proofs.YtmniihkenijjpaaGreatDoor
open Go Go.RowKit Go.Sw Go.ChangeShapes Go.WideShapes Go.ChangeAt
set_option maxRecDepth 100000
theorem Eo:∀xs,FitAs [.cons (.slice (.cons (.str) (.cons (.int .i64) (.cons (.int .i64) .nil)))) (.cons (.slice (.cons (.int .i64) (.cons (.str) (.cons (.slice (.cons (.cons (.cons (.bool) (.cons (.slice (.int .u32)) .nil)) (.cons (.cons (.bool) (.cons (.slice (.int .u32)) .nil)) .nil)) (.cons (.cons (.cons (.bool) (.cons (.slice (.int .u32)) .nil)) (.cons (.cons (.bool) (.cons (.slice (.int .u32)) .nil)) .nil)) .nil))) (.cons (.cons (.cons (.bool) (.cons (.slice (.int .u32)) .nil)) (.cons (.cons (.bool) (.cons (.slice (.int .u32)) .nil)) .nil)) .nil))))) .nil)] xs→Den Tryz.prog 9 xs (.bool true):=by
 rintro xs ⟨_,_,⟨_,h,rfl⟩,rfl,rfl⟩;obtain⟨ls,es,rfl⟩:=aaO h
 try simp only[List.append_nil,List.nil_append,List.cons_append]
 exact ajt ls es
theorem zG{W:World}(h:laidMetH Tryz.prog Rows.repairOpenRow.laid W):Wld.ok Tryz.prog W:=by
 rw[MakeChecks.laidMetH_plain _ _ _ (by kernel_rfl)]at h
 exact⟨tab_of (zs:=Lib.pow10Tab) (g:=1) (t:=353) (e:=152) h (List.mem_of_getElem? (i:=2) (by kernel_rfl)) (by kernel_rfl) (by kernel_rfl) Tryz.underlying353 Tryz.underlying152 (by kernel_rfl) (by kernel_rfl),
  aau (nm := "swarf/drawing.shapes") (xs:=[(⟨#[]⟩,0),(⟨#[108,105,110,101]⟩,2),(⟨#[97,114,99]⟩,3),(⟨#[99,105,114,99,108,101]⟩,1)]) (g:=0) (t:=172) (e:=171) h (List.mem_of_getElem? (i:=3) (by kernel_rfl)) (by kernel_rfl) (by kernel_rfl) Tryz.underlying172 Tryz.underlying171 (by kernel_rfl) (by kernel_rfl) rfl rfl (by kernel_rfl) (by kernel_rfl) (by kernel_rfl)⟩
set_option maxHeartbeats 800000 in
theorem xQ(os:Os)(started:os.Started)(H:Type)(enc:TypeId×Value→H):
 ReturnsInHanded {} Tryz.checked os 9 .any (λw args=>(Rows.repairOpenSpec.pre enc Tryz.prog Tryz.f9 [] false w args∧laidMetH Tryz.prog Rows.repairOpenRow.laid w)∧sizedMet enc Tryz.prog Tryz.f9 (OpenSpec.ofChange Rows.repairOpenSpec) false w args) (Rows.repairOpenSpec.post enc Tryz.prog Tryz.f9 false true false false):=by
 refine returnsInHanded_of_change_and (C:=Tryz.checked) (X:=λw _=>laidMetH Tryz.prog Rows.repairOpenRow.laid w) (λ_ _ _ hh h=>h.of_heap hh) Tryz.own started (by kernel_rfl) Tryz.func9
  (ChangeSpec.witness_shaped (enc:=enc) (C:=Tryz.checked) (os:=os) (X:=λw _=>laidMetH Tryz.prog Rows.repairOpenRow.laid w) false (World.laidAll Tryz.prog os Rows.repairOpenRow.laid) #[.agg #[.slice none 0 0,.slice none 0 0]] 12 (World.laidAll_os _ _ _)
   (World.shaped_of_ZipB (by kernel_rfl) (by kernel_rfl)) (by kernel_rfl) (by kernel_rfl) (by kernel_rfl)
   (by rw[MakeChecks.laidMetH_plain _ _ _ (by kernel_rfl)];exact laidMet_laidAll _ (by kernel_rfl) (by kernel_rfl))) ?_
 intro W base args ds gs before hval0 hW _ _ hL _;have hW':=hW;obtain⟨p,q,hA0,hV,rfl,_,_⟩:=hW;have hA:DataW.TrodAll enc Tryz.prog W 0 (λ_=>true) true Tryz.f9.params.toList args.toList ds p:=hA0;obtain⟨rfl,rfl⟩:=trodVars_none hV;obtain⟨d0,rfl⟩:=len1 (show ds.length=1 from trodAll_len hA);simp only[List.append_nil]at hW';have hlt:∀x∈p,x.block<W.heap.size:=λx hx=>by simpa using hW'.lt x hx
 refine(law_run (Ts:=[.cons (.slice (.cons (.str) (.cons (.int .i64) (.cons (.int .i64) .nil)))) (.cons (.slice (.cons (.int .i64) (.cons (.str) (.cons (.slice (.cons (.cons (.cons (.bool) (.cons (.slice (.int .u32)) .nil)) (.cons (.cons (.bool) (.cons (.slice (.int .u32)) .nil)) .nil)) (.cons (.cons (.cons (.bool) (.cons (.slice (.int .u32)) .nil)) (.cons (.cons (.bool) (.cons (.slice (.int .u32)) .nil)) .nil)) .nil))) (.cons (.cons (.cons (.bool) (.cons (.slice (.int .u32)) .nil)) (.cons (.cons (.bool) (.cons (.slice (.int .u32)) .nil)) .nil)) .nil))))) .nil)]) (by kernel_rfl) Eo (λj t v hj ha=>hval0 j t v (by simpa using hj) (by simpa using ha)) hA (zG hL)).mono λe W' he=>?_
 obtain⟨_,rfl,rfl,hb⟩:=he;refine⟨_,rfl,_,_,_,[],_,[],hW', ?_,trodAll_below Tryz.laidOut hb (by kernel_rfl) hlt hA,rfl,hb.frame _,λh=>by cases h⟩;exact trodAll_mk1 (shut_bool Tryz.underlying4 _)
theorem C9:Rows.RepairOpenSaid :=
 OpenClaim.holds_of_wide 9 Tryz.f9 rfl rfl rfl rfl rfl rfl rfl ⟨rfl,rfl,rfl,rfl,rfl⟩ rfl rfl rfl rfl rfl (by kernel_rfl) Tryz.func9 y8
  (of_decide_eq_true (by kernel_rfl)) (by unfold Func.isWrapper;first|(rw[if_pos (by decide +kernel)];kernel_rfl)|(rw[if_neg (by decide +kernel)];exact⟨rfl,rfl⟩))
  (λos started H enc _=>xQ os started H enc)
theorem RepairOpen_holds:Rows.RepairOpenCardSaid :=
 Claim7.holds_tied_plain_at .later [] [.data,.data,.data,.data] true (true,"f3ac26bbc19fa5dd170bbef99dadcbcd1f24a254e3c8ae9d56f844f18c3416bf") false C9 (λ_ h=>by cases h) (by kernel_rfl) (λ_ h=>by cases h) repairOpen_row_tie rfl ⟨rfl,rfl⟩ AP rfl
  (λf fn hf hfn=>by
   obtain rfl:f=9:=Option.some.inj ((show Tryz.prog.funcNamed "swarf/swarflaw23.RepairOpen" = some 9 by kernel_rfl).symm.trans hf) |>.symm;obtain rfl:fn=Tryz.f9:=(Option.some.inj (Tryz.func9.symm.trans hfn)).symm
   exact⟨zF,λj t ht=>by
    have hm:t∈Tryz.f9.params.toList:=Array.mem_toList_iff.2 (Array.mem_of_getElem? ht);have hall:(Tryz.f9.params.toList.all λu=>!Tryz.prog.wantsStandIn u)=true:=by kernel_rfl
    exact(show Tryz.prog.wantsStandIn t=false by simpa using List.all_eq_true.1 hall t hm)⟩)
  AY
#print axioms RepairOpen_holds
end Go.Proofs.YtmniihkenijjpaaGreatDoor
