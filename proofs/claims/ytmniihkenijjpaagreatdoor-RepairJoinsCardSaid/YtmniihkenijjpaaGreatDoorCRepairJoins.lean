/-
  What the functions swarflaw23.RepairJoins, swarflaw23.RepairJoins answer, each out of its text by the abstract run.
  Each joined end of a remaining entity has the position that the report gives, and the entities are those that the report does not remove: the law returns true for every drawing and tolerance.
  Conditions: none.
-/
import Derived.Test.YtmniihkenijjpaaGreatDoorGRepairJoins
import Derived.Shelf.LaysM
import Derived.Shelf.Strconv.Itoa1
import Derived.Shelf.Strconv.Itoa2
import Derived.Lib.Walk
import Derived.Lib.ItoaMem
import Derived.Lib.ItoaLen
import Derived.Lib.AppendIntMem
import Derived.WalkKit
import Derived.BigCall
import Derived.BigGuard
import Derived.Shelf.SlicesE.Clone
set_option linter.all false
namespace Go.Proofs.YtmniihkenijjpaaGreatDoor
open Go Go.RowKit Go.Sw Go.Shelf
set_option maxRecDepth 100000
set_option maxHeartbeats 8000000
set_option synthInstance.maxSize 4000
set_option synthInstance.maxHeartbeats 400000
theorem ab6{q:Rat}{es:List Ent}{x:Nat}(hx:x<(aH (q*q) es).cs.length)(hk:((aH (q*q) es).cs.getD x C0).kind=1){k:Nat}(h:(dR (bF (aH (q*q) es).cs) es.length)[k]?=some ((aH (q*q) es).cs.getD x C0).ent):
 k<(aH (q*q) es).es.length∧∃a b,bH ((aH (q*q) es).es.getD k E0)=[a,b]∧((((aH (q*q) es).cs.getD x C0).fin=0∧((aH (q*q) es).cs.getD x C0).dst=some a)∨(((aH (q*q) es).cs.getD x C0).fin=1∧((aH (q*q) es).cs.getD x C0).dst=some b)):=by
 rw[TM]at h
 have hm:(aH (q*q) es).cs.getD x C0∈(aH (q*q) es).cs:=by
  rw[List.getD_eq_getElem?_getD,List.getElem?_eq_getElem hx];exact List.getElem_mem hx
 obtain⟨e,w,e1,e2,e3⟩:=Yn hm hk h;generalize(aH (q*q) es).cs.getD x C0=c at e2 e3 ⊢;have hkl:=(List.getElem?_eq_some_iff.1 e1).1;have hg:(aH (q*q) es).es.getD k E0=e:=by rw[List.getD_eq_getElem?_getD,e1];rfl
 refine⟨hkl, ?_⟩;rw[hg];rcases mV e with h0|⟨a,b,h0⟩
 ·rw[h0]at e2;cases e2
 ·refine⟨a,b,h0, ?_⟩;rw[h0]at e2
  match hf:c.fin,e2 with
  |0,e2=>left;exact⟨rfl,by rw[e3];simpa using e2.symm⟩
  |1,e2=>right;exact⟨rfl,by rw[e3];simpa using e2.symm⟩
  |n+2,e2=>simp at e2
instance(priority:=40) afn(ls:List LayD)(es:List EntR)(t:Rq):DenI Tryz.prog 7 [.agg [(.sl 3 (ls.map aS)),.sl 7 (es.map dV)],.agg (YI t)] (smA ls es t=false) (.bool true):=⟨λhp=>by
 refine bW Tryz.func7 rfl ?_
 all_goals(repeat'((try(conv=>whnf));first
  |refine aG ?_|refine aj ?_ ?_|(with_reducible first|refine aQ ?_|refine aP ?_)|refine OnB.mk (λ_=>?_) (λ_=>?_)|refine Ends.mk ?_))
 all_goals(try refine Pr.mk ?_)
 all_goals(try simp only[List.length_map,Int.toNat_natCast]at *)
 all_goals first
  |trivial|(exfalso;simp_all;done)⟩
instance(priority:=50) aaG(ls:List LayD)(es:List EntR)(q:Rat):DenI Tryz.prog 7 [.agg [(.sl 3 (ls.map aS)),.sl 7 (es.map dV)],R q] (smA ls es (nD q)=true∧ls.length≤1000∧es.length≤1000∧(∀l∈ls,l.name.size≤1000)∧(∀e∈es,uO e)∧(jD ls es≠0∨q<0)∧rz q≤12) (.bool true):=⟨λhp=>by
 obtain⟨hs,hp⟩:=hp;have hv:=acZ ls es;generalize hcd:(if jD ls es≠0 then jD ls es else 1)=cd at hv;have hp1:=hp;obtain⟨h1,h2,h3,h4,h5,h6⟩:=hp1
 haveI i1:DenI Tryz.prog 13 [.agg [(.sl 3 (ls.map aS)),.sl 7 (es.map dV)],R q] True (.tup [.agg [.sl 3 [],.sl 7 []],.c (.sl 0 []),.int .i64 cd]):=⟨λ_=>by have h:=(aeh ls es q).den hp;rwa [hcd]at h⟩
 all_goals refine bW Tryz.func7 rfl ?_
 all_goals(repeat'((try(conv=>whnf));first
  |refine aG ?_|refine aj ?_ ?_|(with_reducible first|refine aQ ?_|refine aP ?_|refine cZ (λ_=>?_) (λ_=>?_))|refine OnB.mk (λ_=>?_) (λ_=>?_)|refine Drw.mk (by kernel_rfl) ?_|refine Ends.mk ?_))
 all_goals(try refine Pr.mk ?_)
 all_goals(try simp only[List.length_map,Int.toNat_natCast]at *)
 all_goals first
  |trivial⟩
instance(priority:=60) aeI(ls:List LayD)(es:List Ent)(q:Rat):DenI Tryz.prog 7 [.agg [(.sl 3 (ls.map aS)),.sl 7 (es.map aK)],R q] (smA ls (es.map fK) (nD q)=true∧ls.length≤1000∧(∀l∈ls,l.name.size≤1000)∧es.length≤12∧(∀e∈es,okV e)∧(∀e∈es,uO (fK e))∧rz q≤12∧¬q<0∧jD ls (es.map fK)=0) (.bool true):=⟨λ⟨hs,h1,h2,h3,h4,h5,h6,h7,h8⟩=>by
 obtain⟨k1,k2,k3,k4⟩:=Q9 (q:=q) h3 h4 h5 h8;have kp:=(Qg ls es q).den ⟨h1,h2,h3,h4,h5,h6,h7,h8⟩;obtain⟨g1,g2,g3⟩:=Ti q es
 exact YR ls es _ _ q hs h1 h3 h5 (OX (tol:=q) h3 h4) kp g1 g2 g3 k2 (λx hx hk k h=>ab6 hx hk h)⟩
theorem ahs(ls:List LayD)(es:List EntR)(t:Rq):Den Tryz.prog 7 [.agg [(.sl 3 (ls.map aS)),.sl 7 (es.map dV)],.agg (YI t)] (.bool true):=by
 cases hs:smA ls es t with
 |false=>exact(afn ls es t).den hs
 |true =>
  obtain⟨g1,g2,g3,g4,q,rfl,g5⟩:=abL hs
  by_cases hv:jD ls es=0
  ·by_cases hq:q<0
   ·exact(aaG ls es q).den ⟨hs,by omega,by omega,g2,g4,.inr hq,by omega⟩
   ·obtain⟨xs,rfl,hx⟩:=Uc g4 hv;have h:=(aeI ls xs q).den ⟨hs,by omega,g2,by simpa using g3,hx,λe he=>g4 _ (List.mem_map_of_mem he),by omega,hq,hv⟩;rw[←Aq]at h;exact h
  ·exact(aaG ls es q).den ⟨hs,by omega,by omega,g2,g4,.inl hv,by omega⟩
end Go.Proofs.YtmniihkenijjpaaGreatDoor
namespace Go.Proofs.YtmniihkenijjpaaGreatDoor
open Go Go.RowKit Go.Sw Go.ChangeShapes Go.WideShapes Go.ChangeAt
set_option maxRecDepth 100000
theorem zL:∀xs,OI [.cons (.slice (.cons (.str) (.cons (.int .i64) (.cons (.int .i64) .nil)))) (.cons (.slice (.cons (.int .i64) (.cons (.str) (.cons (.slice (.cons (.cons (.cons (.bool) (.cons (.slice (.int .u32)) .nil)) (.cons (.cons (.bool) (.cons (.slice (.int .u32)) .nil)) .nil)) (.cons (.cons (.cons (.bool) (.cons (.slice (.int .u32)) .nil)) (.cons (.cons (.bool) (.cons (.slice (.int .u32)) .nil)) .nil)) .nil))) (.cons (.cons (.cons (.bool) (.cons (.slice (.int .u32)) .nil)) (.cons (.cons (.bool) (.cons (.slice (.int .u32)) .nil)) .nil)) .nil))))) .nil),.cons (.cons (.bool) (.cons (.slice (.int .u32)) .nil)) (.cons (.cons (.bool) (.cons (.slice (.int .u32)) .nil)) .nil)] xs→Den Tryz.prog 7 xs (.bool true):=by
 rintro xs ⟨_,_,⟨_,h,rfl⟩,⟨_,_,⟨_,h2,rfl⟩,rfl,rfl⟩,rfl⟩;obtain⟨ls,es,rfl⟩:=Yt h;obtain⟨t,rfl⟩:=Gj h2
 try simp only[List.append_nil,List.nil_append,List.cons_append]
 exact ahs ls es t
theorem xg{W:World}(h:laidMetH Tryz.prog Rows.repairJoinsRow.laid W):Wld.ok Tryz.prog W:=by
 rw[MakeChecks.laidMetH_plain _ _ _ (by kernel_rfl)]at h
 exact⟨aa7 (zs:=Lib.pow10Tab) (g:=1) (t:=353) (e:=152) h (List.mem_of_getElem? (i:=2) (by kernel_rfl)) (by kernel_rfl) (by kernel_rfl) Tryz.underlying353 Tryz.underlying152 (by kernel_rfl) (by kernel_rfl),
  aac (nm := "swarf/drawing.shapes") (xs:=[(⟨#[]⟩,0),(⟨#[108,105,110,101]⟩,2),(⟨#[97,114,99]⟩,3),(⟨#[99,105,114,99,108,101]⟩,1)]) (g:=0) (t:=172) (e:=171) h (List.mem_of_getElem? (i:=3) (by kernel_rfl)) (by kernel_rfl) (by kernel_rfl) Tryz.underlying172 Tryz.underlying171 (by kernel_rfl) (by kernel_rfl) rfl rfl (by kernel_rfl) (by kernel_rfl) (by kernel_rfl)⟩
set_option maxHeartbeats 800000 in
theorem uZ(os:Os)(started:os.Started)(H:Type)(enc:TypeId×Value→H):
 ReturnsInHanded {} Tryz.checked os 7 .any (λw args=>(Rows.repairJoinsSpec.pre enc Tryz.prog Tryz.f7 [] false w args∧laidMetH Tryz.prog Rows.repairJoinsRow.laid w)∧sizedMet enc Tryz.prog Tryz.f7 (OpenSpec.ofChange Rows.repairJoinsSpec) false w args) (Rows.repairJoinsSpec.post enc Tryz.prog Tryz.f7 false true false false):=by
 refine returnsInHanded_of_change_and (C:=Tryz.checked) (X:=λw _=>laidMetH Tryz.prog Rows.repairJoinsRow.laid w) (λ_ _ _ hh h=>h.of_heap hh) Tryz.own started (by kernel_rfl) Tryz.func7
  (ChangeSpec.witness_shaped (enc:=enc) (C:=Tryz.checked) (os:=os) (X:=λw _=>laidMetH Tryz.prog Rows.repairJoinsRow.laid w) false (World.laidAll Tryz.prog os Rows.repairJoinsRow.laid) #[.agg #[.slice none 0 0,.slice none 0 0],.agg #[.bool false,.slice none 0 0,.bool false,.slice none 0 0]] 12 (World.laidAll_os _ _ _)
   (World.shaped_of_ZipB (by kernel_rfl) (by kernel_rfl)) (by kernel_rfl) (by kernel_rfl) (by kernel_rfl)
   (by rw[MakeChecks.laidMetH_plain _ _ _ (by kernel_rfl)];exact laidMet_laidAll _ (by kernel_rfl) (by kernel_rfl))) ?_
 intro W base args ds gs before hval0 hW _ _ hL _;have hW':=hW;obtain⟨p,q,hA0,hV,rfl,_,_⟩:=hW;have hA:DataW.TrodAll enc Tryz.prog W 0 (λ_=>true) true Tryz.f7.params.toList args.toList ds p:=hA0;obtain⟨rfl,rfl⟩:=trodVars_none hV;obtain⟨d0,d1,rfl⟩:=len2 (show ds.length=2 from zx hA);simp only[List.append_nil]at hW';have hlt:∀x∈p,x.block<W.heap.size:=λx hx=>by simpa using hW'.lt x hx
 refine(Yh (Ts:=[.cons (.slice (.cons (.str) (.cons (.int .i64) (.cons (.int .i64) .nil)))) (.cons (.slice (.cons (.int .i64) (.cons (.str) (.cons (.slice (.cons (.cons (.cons (.bool) (.cons (.slice (.int .u32)) .nil)) (.cons (.cons (.bool) (.cons (.slice (.int .u32)) .nil)) .nil)) (.cons (.cons (.cons (.bool) (.cons (.slice (.int .u32)) .nil)) (.cons (.cons (.bool) (.cons (.slice (.int .u32)) .nil)) .nil)) .nil))) (.cons (.cons (.cons (.bool) (.cons (.slice (.int .u32)) .nil)) (.cons (.cons (.bool) (.cons (.slice (.int .u32)) .nil)) .nil)) .nil))))) .nil),.cons (.cons (.bool) (.cons (.slice (.int .u32)) .nil)) (.cons (.cons (.bool) (.cons (.slice (.int .u32)) .nil)) .nil)]) (by kernel_rfl) zL (λj t v hj ha=>hval0 j t v (by simpa using hj) (by simpa using ha)) hA (xg hL)).mono λe W' he=>?_
 obtain⟨_,rfl,rfl,hb⟩:=he;refine⟨_,rfl,_,_,_,[],_,[],hW', ?_,uU Tryz.laidOut hb (by kernel_rfl) hlt hA,rfl,hb.frame _,λh=>by cases h⟩;exact trodAll_mk1 (shut_bool Tryz.underlying4 _)
theorem zM:Rows.RepairJoinsSaid :=
 OpenClaim.holds_of_wide 7 Tryz.f7 rfl rfl rfl rfl rfl rfl rfl ⟨rfl,rfl,rfl,rfl,rfl⟩ rfl rfl rfl rfl rfl (by kernel_rfl) Tryz.func7 vX
  (of_decide_eq_true (by kernel_rfl)) (by unfold Func.isWrapper;first|(rw[if_pos (by decide +kernel)];kernel_rfl)|(rw[if_neg (by decide +kernel)];exact⟨rfl,rfl⟩))
  (λos started H enc _=>uZ os started H enc)
theorem RepairJoins_holds:Rows.RepairJoinsCardSaid :=
 Claim7.holds_tied_plain_at .later [] [.data,.data,.data,.data] true (true,"f3ac26bbc19fa5dd170bbef99dadcbcd1f24a254e3c8ae9d56f844f18c3416bf") false zM (λ_ h=>by cases h) (by kernel_rfl) (λ_ h=>by cases h) repairJoins_row_tie rfl ⟨rfl,rfl⟩ yu rfl
  (λf fn hf hfn=>by
   obtain rfl:f=7:=Option.some.inj ((show Tryz.prog.funcNamed "swarf/swarflaw23.RepairJoins" = some 7 by kernel_rfl).symm.trans hf) |>.symm;obtain rfl:fn=Tryz.f7:=(Option.some.inj (Tryz.func7.symm.trans hfn)).symm
   exact⟨vZ,λj t ht=>by
    have hm:t∈Tryz.f7.params.toList:=Array.mem_toList_iff.2 (Array.mem_of_getElem? ht);have hall:(Tryz.f7.params.toList.all λu=>!Tryz.prog.wantsStandIn u)=true:=by kernel_rfl
    exact(show Tryz.prog.wantsStandIn t=false by simpa using List.all_eq_true.1 hall t hm)⟩)
  yc
#print axioms RepairJoins_holds
end Go.Proofs.YtmniihkenijjpaaGreatDoor
