/-
  Rules of the abstract run, plain laws, and what functions answer, for the law RepairOpen.
  Conditions: none.
-/
import Derived.Test.YtmniihkenijjpaaGreatDoorT15
import Derived.Shelf.LaysM
import Derived.Shelf.Strconv.Itoa1
import Derived.Shelf.Strconv.Itoa2
import Derived.Lib.Walk
import Derived.Lib.ItoaMem
import Derived.Lib.ItoaLen
import Derived.Lib.AppendIntMem
import Derived.WalkKit
import Derived.BigCall
import Derived.BigGuard
import Derived.Shelf.SlicesE.Clone
set_option linter.all false
namespace Go.Proofs.YtmniihkenijjpaaGreatDoor
open Go Go.RowKit Go.Sw Go.Shelf
set_option maxRecDepth 100000
set_option maxHeartbeats 8000000
set_option synthInstance.maxSize 4000
set_option synthInstance.maxHeartbeats 400000
def Uj:Tab:=(2000000000,.flag)::CZ
theorem uO:tabOk Tryz.prog Uj=true:=by kernel_rfl
def afk:Go.Shelf.Ren:=⟨λn=>if n=41 then 31 else n,λn=>if n=22 then 53 else if n=23 then 45 else n,id⟩
theorem aeI:Go.Proofs.SlLaysE0.n41 Tryz.prog afk where
 mixed:=eF
 f41:=⟨ "slices.Clone[[]swarf/api.Vec,swarf/api.Vec]",by decide,Ai Tryz.func31 (congrArg some (Eq.refl _))⟩
 t4:=Tryz.underlying4
 a4:=Tryz.isAgg4
 z4:=Tryz.sizeOf4
 v4:=Tryz.zeroValue4
 t22:=Tryz.underlying53
 a22:=Tryz.isAgg53
 z22:=Tryz.sizeOf53
 v22:=Tryz.zeroValue53
theorem abD:∃i0,Tryz.prog.info? 45=some i0∧i0.zero=some (.agg #[.bool false,.slice none 0 0,.bool false,.slice none 0 0,.bool false,.slice none 0 0,.bool false,.slice none 0 0])∧i0.size=8∧i0.bytes=128:=info_parts (by kernel_rfl)
instance al8(es:List (List Cell)):DenI Tryz.prog 31 [.c (.sl 8 es)] (es.length≤1000000) (.own 45 8 es):=⟨λhp=>by
 obtain⟨i0,h1,h2,h3,h4⟩:=abD
 exact den_clone_own aeI (by kernel_rfl) i0 _ h1 h2 h3 (by omega) rfl (by decide) Tryz.sizeOf45 hp⟩
instance ahV(e:Ent):DenI Tryz.prog 30 [.agg (cO e)] (e.pts.length≤1000000) (Dq e):=⟨λhp=>by
 refine den_of (τ:=CZ) kC eF Tryz.func30 rfl (by kernel_rfl) (by kernel_rfl) (by kernel_rfl) ?_
 all_goals(repeat'((try(conv=>whnf));first
  |(with_reducible first|refine onB_t ?_|refine onB_f ?_|refine onB_d (λ_=>?_) (λ_=>?_))|refine Drw.mk (by kernel_rfl) ?_|refine elem_map P0 ?_ ?_|refine Ends.mk ?_))
 all_goals(try refine Pr.mk ?_)
 all_goals(try simp only[bK]at *)
 all_goals(try simp(disch:=omega) only[bW]at *)
 all_goals first
  |(exfalso;omega)|exact KX (by omega) rfl (by omega)|exact Qn (by omega)|omega⟩
instance(priority:=3000) nY(e:Ent):DenI Tryz.prog 30 [.agg (cO e)] (e.pts.length≤1000000) (.tup [.c (.sl 8 ((aS e).map vecC)),.bool (decide (aS e≠[]))]):=⟨λhp=>WX rfl (by by_cases h:aS e=[]<;>simp [h]) ((inferInstance:DenI Tryz.prog 30 [.agg (cO e)] _ (Dq e)).den hp)⟩
instance aio(e:Ent)(l:List P2):DenI Tryz.prog 94 [.agg (cO e),.c (.sl 8 (l.map vecC))] (e.pts.length≤1000000∧l.length=(aS e).length) (.agg (cO (iI e l))):=⟨λhp=>by
 obtain⟨hp1,hp2⟩:=hp;have hsh:=Ej e
 all_goals refine den_of (τ:=Uj) uO eF Tryz.func94 rfl (by kernel_rfl) (by kernel_rfl) (by kernel_rfl) ?_
 all_goals(repeat'((try(conv=>whnf));first
  |refine call_i ?_ ?_|(with_reducible refine onB_d (λ_=>?_) (λ_=>?_))|refine obl_i ?_ ?_|refine Drw.mk (by kernel_rfl) ?_|refine KG P0 _ ?_ ?_|refine elem_map P0 ?_ ?_|refine Ends.mk ?_))
 all_goals(try refine Pr.mk ?_)
 all_goals(try simp only[bK]at *)
 all_goals(try simp(disch:=omega) only[bW]at *)
 all_goals first
  |omega|(simp only[JB,bK])|exact Ul (by omega) hp2 (by omega)|exact Vl (by assumption) hp2⟩
instance afI(e:Ent):DenI Tryz.prog 94 [.agg (cO e),.c (.sl 0 [])] (e.pts.length≤1000000) (.agg (cO e)):=⟨λhp=>by
 refine den_of (τ:=Uj) uO eF Tryz.func94 rfl (by kernel_rfl) (by kernel_rfl) (by kernel_rfl) ?_
 all_goals(repeat'((try(conv=>whnf));first
  |refine call_i ?_ ?_|(with_reducible refine onB_d (λ_=>?_) (λ_=>?_))|refine obl_i ?_ ?_|refine Ends.mk ?_))
 all_goals(try refine Pr.mk ?_)
 all_goals(try simp only[bK]at *)
 all_goals first
  |omega|rfl|(exfalso;simp at *;done)⟩
instance ac0(l:List (Ent × Nat))(i k:Nat)(v:P2):DenI Tryz.prog 97 [.c (.sl 8 (l.map jV)),.int .i64 (i:Nat),.int .i64 (k:Nat),.agg (vecC v)] (l.length≤12∧i<l.length∧k≤1∧aV v∧∀x∈l,Zq x.1) (.bool (Aq l (l.getD i N0).1.layer i k v)):=⟨λ⟨h1,h2,hk,h3,h4⟩=>by
 refine den_of (τ:=CZ) kC eF Tryz.func97 rfl (by kernel_rfl) (by kernel_rfl) (by kernel_rfl) ?_
 (conv=>whnf)
 refine Sw.Loop.inv (α:=Nat) (λx=>[(0,.c (.sl 8 (l.map jV))),(1,.int .i64 (i:Nat)),(2,.int .i64 (k:Nat)),(7,.ptr 7 0),(15,.c (.sl 8 (l.map jV))),(16,.int .i64 (l.length:Nat)),(17,.int .i64 (x:Nat))]) (λx=>[(7,.var (vecC v))]) (λx=>x≤l.length∧∀j<x,metAt l (l.getD i N0).1.layer i k v j=false) (λx=>l.length-x) 0 ?_ ?_ ?_ (λx hx=>?_)
 ·exact⟨rfl,rfl,rfl,rfl,rfl,by simp only[bK];rfl,rfl,trivial⟩
 ·exact⟨rfl,trivial⟩
 ·exact⟨oW _,λj hj=>absurd hj (Jr _)⟩
 obtain⟨hx1,hx2⟩:=hx;obtain⟨g1,g2,g3⟩:=Qc h4 x;rcases lV (l.getD x N0).1 with hE|⟨a,b,hE⟩
 ·haveI ie:DenI Tryz.prog 30 [.agg (cO (l.getD (Int.toNat ((x:Nat):Int)) N0).1)] ((l.getD x N0).1.pts.length≤1000000) (.tup [.c (.sl 8 []),.bool false]):=⟨λhp=>by have:=(nY (l.getD x N0).1).den hp;rw[hE]at this;simpa using this⟩
  all_goals(repeat'((try(conv=>whnf));first
   |refine call_0 ?_|refine call_i ?_ ?_|refine call_c ?_ (λ_=>?_) (λ_=>?_)|(with_reducible first|refine onB_t ?_|refine onB_f ?_|refine onB_d (λ_=>?_) (λ_=>?_)|refine onB_n (λ_=>?_) (λ_=>?_))|refine OnB.mk (λ_=>?_) (λ_=>?_)|refine obl_i ?_ ?_|refine Drw.mk (by kernel_rfl) ?_|refine mks_i ?_ ?_|refine slp_i ?_ ?_|(with_reducible first|refine elem_u ?_ ?_|refine elem_0 ?_|refine elem_1 ?_)|refine elem_map N0 ?_ ?_|refine Ends.mk ?_))
  all_goals(try refine Pr.mk ?_)
  all_goals first
   |((conv=>whnf);refine Sw.Loop.unroll ?_)|skip
  all_goals(repeat'((try rw[Ro]);(try rw[MQ]);(try(conv=>whnf));first
   |refine call_0 ?_|refine call_i ?_ ?_|(with_reducible first|refine onB_t ?_|refine onB_f ?_)|refine RD (by simp only[iH,jf];decide) ?_|refine CQ (by simp only[iH,jf];decide) ?_|refine RD (by decide) ?_|refine CQ (by decide) ?_|(with_reducible first|refine onB_d (λ_=>?_) (λ_=>?_)|refine onB_n (λ_=>?_) (λ_=>?_))|refine OnB.mk (λ_=>?_) (λ_=>?_)|refine obl_i ?_ ?_|refine Drw.mk (by kernel_rfl) ?_|refine mks_i ?_ ?_|refine slp_i ?_ ?_|(with_reducible first|refine elem_u ?_ ?_|refine elem_0 ?_|refine elem_1 ?_)|refine Ends.mk ?_))
  all_goals(try refine Pr.mk ?_)
  all_goals(try simp only[bK,fU]at *)
  all_goals first
   |omega|((with_reducible show _∧_);first|omega|exact⟨dh h3.1 (by decide),dh h3.2 (by decide),dh ha.1 (by decide),dh ha.2 (by decide)⟩|exact⟨dh h3.1 (by decide),dh h3.2 (by decide),dh hb.1 (by decide),dh hb.2 (by decide)⟩)|((with_reducible show packA [AV.c (Cell.v (Value.bool false))]=_);have hxx:x=l.length:=(by omega);subst hxx;rw[V3 hx2];rfl)|((with_reducible show packA [AV.c (Cell.v (Value.bool true))]=_);rw[aeK (x:=x) (by omega) (by(rw[QW (by omega) hE (by assumption)];clear hx2 h4;grind))];rfl)|(exfalso;rename_i q;simp at q;done)|(have hm:=FQ (i:=i) (k:=k) (v:=v) (l:=l) (x:=x) (by omega) (by assumption);(conv=>whnf);exact⟨x+1,⟨⟨rfl,rfl,rfl,rfl,rfl,rfl,aW (by omega),trivial⟩,⟨rfl,trivial⟩,⟨by omega,xP hx2 hm⟩,(by show l.length-(x+1)<l.length-x;omega)⟩⟩)|(have hm:=Gh (s:=(l.getD i N0).1.layer) (i:=i) (k:=k) (v:=v) (l:=l) (x:=x) (by omega) hE;(conv=>whnf);exact⟨x+1,⟨⟨rfl,rfl,rfl,rfl,rfl,rfl,aW (by omega),trivial⟩,⟨rfl,trivial⟩,⟨by omega,xP hx2 hm⟩,(by show l.length-(x+1)<l.length-x;omega)⟩⟩)|skip
 ·haveI ie:DenI Tryz.prog 30 [.agg (cO (l.getD (Int.toNat ((x:Nat):Int)) N0).1)] ((l.getD x N0).1.pts.length≤1000000) (.tup [.c (.sl 8 [vecC a,vecC b]),.bool true]):=⟨λhp=>by have:=(nY (l.getD x N0).1).den hp;rw[hE]at this;simpa using this⟩
  have ha:aV a:=g1 a (iR (by rw[hE];simp));have hb:aV b:=g1 b (iR (by rw[hE];simp))
  all_goals(repeat'((try(conv=>whnf));first
   |refine call_0 ?_|refine call_i ?_ ?_|refine call_c ?_ (λ_=>?_) (λ_=>?_)|(with_reducible first|refine onB_t ?_|refine onB_f ?_|refine onB_d (λ_=>?_) (λ_=>?_)|refine onB_n (λ_=>?_) (λ_=>?_))|refine OnB.mk (λ_=>?_) (λ_=>?_)|refine obl_i ?_ ?_|refine Drw.mk (by kernel_rfl) ?_|refine mks_i ?_ ?_|refine slp_i ?_ ?_|(with_reducible first|refine elem_u ?_ ?_|refine elem_0 ?_|refine elem_1 ?_)|refine elem_map N0 ?_ ?_|refine Ends.mk ?_))
  all_goals(try refine Pr.mk ?_)
  all_goals first
   |((conv=>whnf);refine Sw.Loop.unroll ?_)|skip
  all_goals(repeat'((try rw[Ro]);(try rw[MQ]);(try(conv=>whnf));first
   |refine call_0 ?_|refine call_i ?_ ?_|(with_reducible first|refine onB_t ?_|refine onB_f ?_)|refine RD (by simp only[iH,jf];decide) ?_|refine CQ (by simp only[iH,jf];decide) ?_|refine RD (by decide) ?_|refine CQ (by decide) ?_|(with_reducible first|refine onB_d (λ_=>?_) (λ_=>?_)|refine onB_n (λ_=>?_) (λ_=>?_))|refine OnB.mk (λ_=>?_) (λ_=>?_)|refine obl_i ?_ ?_|refine Drw.mk (by kernel_rfl) ?_|refine mks_i ?_ ?_|refine slp_i ?_ ?_|(with_reducible first|refine elem_u ?_ ?_|refine elem_0 ?_|refine elem_1 ?_)|refine Ends.mk ?_))
  all_goals(try refine Pr.mk ?_)
  all_goals first
   |((conv=>whnf);refine Sw.Loop.unroll ?_)|skip
  all_goals(repeat'((try rw[Ro]);(try rw[MQ]);(try(conv=>whnf));first
   |refine call_0 ?_|refine call_i ?_ ?_|(with_reducible first|refine onB_t ?_|refine onB_f ?_)|refine RD (by simp only[iH,jf];decide) ?_|refine CQ (by simp only[iH,jf];decide) ?_|refine RD (by decide) ?_|refine CQ (by decide) ?_|(with_reducible first|refine onB_d (λ_=>?_) (λ_=>?_)|refine onB_n (λ_=>?_) (λ_=>?_))|refine OnB.mk (λ_=>?_) (λ_=>?_)|refine obl_i ?_ ?_|refine Drw.mk (by kernel_rfl) ?_|refine mks_i ?_ ?_|refine slp_i ?_ ?_|(with_reducible first|refine elem_u ?_ ?_|refine elem_0 ?_|refine elem_1 ?_)|refine Ends.mk ?_))
  all_goals(try refine Pr.mk ?_)
  all_goals first
   |((conv=>whnf);refine Sw.Loop.unroll ?_)|skip
  all_goals(repeat'((try rw[Ro]);(try rw[MQ]);(try(conv=>whnf));first
   |refine call_0 ?_|refine call_i ?_ ?_|(with_reducible first|refine onB_t ?_|refine onB_f ?_)|refine RD (by simp only[iH,jf];decide) ?_|refine CQ (by simp only[iH,jf];decide) ?_|refine RD (by decide) ?_|refine CQ (by decide) ?_|(with_reducible first|refine onB_d (λ_=>?_) (λ_=>?_)|refine onB_n (λ_=>?_) (λ_=>?_))|refine OnB.mk (λ_=>?_) (λ_=>?_)|refine obl_i ?_ ?_|refine Drw.mk (by kernel_rfl) ?_|refine mks_i ?_ ?_|refine slp_i ?_ ?_|(with_reducible first|refine elem_u ?_ ?_|refine elem_0 ?_|refine elem_1 ?_)|refine Ends.mk ?_))
  all_goals(try refine Pr.mk ?_)
  all_goals(try simp only[bK,fU]at *)
  all_goals first
   |omega|((with_reducible show _∧_);first|omega|exact⟨dh h3.1 (by decide),dh h3.2 (by decide),dh ha.1 (by decide),dh ha.2 (by decide)⟩|exact⟨dh h3.1 (by decide),dh h3.2 (by decide),dh hb.1 (by decide),dh hb.2 (by decide)⟩)|((with_reducible show packA [AV.c (Cell.v (Value.bool false))]=_);have hxx:x=l.length:=(by omega);subst hxx;rw[V3 hx2];rfl)|((with_reducible show packA [AV.c (Cell.v (Value.bool true))]=_);rw[aeK (x:=x) (by omega) (by(rw[QW (by omega) hE (by assumption)];clear hx2 h4;grind))];rfl)|(exfalso;rename_i q;simp at q;done)|(have hm:=FQ (i:=i) (k:=k) (v:=v) (l:=l) (x:=x) (by omega) (by assumption);(conv=>whnf);exact⟨x+1,⟨⟨rfl,rfl,rfl,rfl,rfl,rfl,aW (by omega),trivial⟩,⟨rfl,trivial⟩,⟨by omega,xP hx2 hm⟩,(by show l.length-(x+1)<l.length-x;omega)⟩⟩)|(have hm:metAt l (l.getD i N0).1.layer i k v x=false:=(by(rw[QW (by omega) hE (by assumption)];clear hx2 h4;grind));(conv=>whnf);exact⟨x+1,⟨⟨rfl,rfl,rfl,rfl,rfl,rfl,aW (by omega),trivial⟩,⟨rfl,trivial⟩,⟨by omega,xP hx2 hm⟩,(by show l.length-(x+1)<l.length-x;omega)⟩⟩)|skip⟩
instance akl(l:List (Ent × Nat))(i:Nat)(v:P2):DenI Tryz.prog 97 [.c (.sl 8 (l.map jV)),.int .i64 (i:Nat),.int .i64 0,.agg (vecC v)] (l.length≤12∧i<l.length∧aV v∧∀x∈l,Zq x.1) (.bool (Aq l (l.getD i N0).1.layer i 0 v)):=⟨λhp=>(ac0 l i 0 v).den ⟨hp.1,hp.2.1,by omega,hp.2.2⟩⟩
instance ajw(l:List (Ent × Nat))(i:Nat)(v:P2):DenI Tryz.prog 97 [.c (.sl 8 (l.map jV)),.int .i64 (i:Nat),.int .i64 1,.agg (vecC v)] (l.length≤12∧i<l.length∧aV v∧∀x∈l,Zq x.1) (.bool (Aq l (l.getD i N0).1.layer i 1 v)):=⟨λhp=>(ac0 l i 1 v).den ⟨hp.1,hp.2.1,by omega,hp.2.2⟩⟩
instance ajB(l:List (Ent × Nat)):DenI Tryz.prog 54 [.c (.sl 8 (l.map jV))] (l.length≤12∧∀x∈l,Zq x.1) (.c (.sl 19 ((jU l).map yN))):=⟨λ⟨h1,h4⟩=>by
 refine den_of (τ:=CZ) kC eF Tryz.func54 rfl (by kernel_rfl) (by kernel_rfl) (by kernel_rfl) ?_
 (conv=>whnf)
 refine Sw.Loop.ghost 3 100 47 19 ?_ rfl rfl rfl (by decide);refine Sw.Loop.inv (α:=Nat) (λx=>[(0,.c (.sl 8 (l.map jV))),(10,.c (.sl 8 (l.map jV))),(11,.int .i64 (l.length:Nat)),(12,.int .i64 (x:Nat)),(3,.gs 100 ((Y0 l x).map yN).length)]) (λx=>[(100,.grow 47 19 ((Y0 l x).map yN))]) (λx=>x≤l.length) (λx=>l.length-x) 0 ?_ ?_ ?_ (λx hx=>?_)
 ·exact⟨rfl,rfl,by simp only[bK];rfl,rfl,rfl,trivial⟩
 ·exact⟨rfl,trivial⟩
 ·exact oW _
 have hol:=xJ l x hx;obtain⟨g1,g2,g3⟩:=Qc h4 x;rcases lV (l.getD x N0).1 with hE|⟨a,b,hE⟩
 ·haveI ie:DenI Tryz.prog 30 [.agg (cO (l.getD (Int.toNat ((x:Nat):Int)) N0).1)] ((l.getD x N0).1.pts.length≤1000000) (.tup [.c (.sl 8 []),.bool false]):=⟨λhp=>by have:=(nY (l.getD x N0).1).den hp;rw[hE]at this;simpa using this⟩
  all_goals(repeat'((try(conv=>whnf));first
   |refine call_i ?_ ?_|(with_reducible refine onB_d (λ_=>?_) (λ_=>?_))|refine obl_i ?_ ?_|refine elem_map N0 ?_ ?_|refine Ends.mk ?_))
  all_goals(try refine Pr.mk ?_)
  all_goals first
   |((conv=>whnf);refine Sw.Loop.unroll ?_)|skip
  all_goals(repeat'((try rw[Ro]);(try rw[MQ]);(try(conv=>whnf));first
   |refine CQ (by simp only[iH,jf];decide) ?_))
  all_goals(try simp only[bK,fU]at *)
  all_goals first
   |omega|((with_reducible show packA _=_);have hxx:x=l.length:=(by omega);subst hxx;rfl)|(have hA:=RS (l:=l) (x:=x) (by omega) hE;(conv=>whnf);exact⟨x+1,⟨⟨rfl,rfl,rfl,aW (by omega),(by(simp only[hA,fO,gB,iD,gy,gY,bK,iH,jf]);(first|done|rfl)),trivial⟩,⟨(by(simp only[hA,fO,gB,iD,gy]);(first|done|rfl)),trivial⟩,by omega,(by show l.length-(x+1)<l.length-x;omega)⟩⟩)
 ·haveI ie:DenI Tryz.prog 30 [.agg (cO (l.getD (Int.toNat ((x:Nat):Int)) N0).1)] ((l.getD x N0).1.pts.length≤1000000) (.tup [.c (.sl 8 [vecC a,vecC b]),.bool true]):=⟨λhp=>by have:=(nY (l.getD x N0).1).den hp;rw[hE]at this;simpa using this⟩
  have ha:aV a:=g1 a (iR (by rw[hE];simp));have hb:aV b:=g1 b (iR (by rw[hE];simp))
  all_goals(repeat'((try(conv=>whnf));first
   |refine call_i ?_ ?_|(with_reducible refine onB_d (λ_=>?_) (λ_=>?_))|refine obl_i ?_ ?_|refine elem_map N0 ?_ ?_|refine Ends.mk ?_))
  all_goals(try refine Pr.mk ?_)
  all_goals first
   |((conv=>whnf);refine Sw.Loop.unroll ?_)|skip
  all_goals(repeat'((try rw[Ro]);(try rw[MQ]);(try(conv=>whnf));first
   |refine call_i ?_ ?_|(with_reducible refine onB_d (λ_=>?_) (λ_=>?_))|refine OnB.mk (λ_=>?_) (λ_=>?_)|refine obl_i ?_ ?_|(with_reducible refine elem_0 ?_)))
  all_goals(try refine Pr.mk ?_)
  all_goals first
   |((conv=>whnf);refine Sw.Loop.unroll ?_)|skip
  all_goals(repeat'((try rw[Ro]);(try rw[MQ]);(try(conv=>whnf));first
   |refine call_i ?_ ?_|(with_reducible refine onB_d (λ_=>?_) (λ_=>?_))|refine OnB.mk (λ_=>?_) (λ_=>?_)|refine obl_i ?_ ?_|(with_reducible refine elem_1 ?_)))
  all_goals(try refine Pr.mk ?_)
  all_goals first
   |((conv=>whnf);refine Sw.Loop.unroll ?_)|skip
  all_goals(repeat'((try rw[Ro]);(try rw[MQ]);(try(conv=>whnf));first
   |(with_reducible refine onB_d (λ_=>?_) (λ_=>?_))))
  all_goals(try simp only[bK,fU]at *)
  all_goals first
   |omega|((with_reducible show(_:Nat)≤_);simp only[gY,bK,iH,jf];omega)|((with_reducible show _∧_);first|omega|exact⟨h1,by omega,ha,h4⟩|exact⟨h1,by omega,hb,h4⟩)|((with_reducible show packA _=_);have hxx:x=l.length:=(by omega);subst hxx;rfl)|(exfalso;rename_i q;simp at q;done)|(have hA:=QC (l:=l) (x:=x) (by omega) hE;first|(have q1:=Ij (n:=(l.getD x N0).2) (l:=l) (s:=(l.getD x N0).1.layer) (i:=x) (k:=0) (v:=a) (by assumption);have q2:=Ij (n:=(l.getD x N0).2) (l:=l) (s:=(l.getD x N0).1.layer) (i:=x) (k:=1) (v:=b) (by assumption);(conv=>whnf);exact⟨x+1,⟨⟨rfl,rfl,rfl,aW (by omega),(by(simp only[hA,q1,q2,sS,wZ,o8,fO,gB,iD,gy,gY,bK,iH,jf]);(first|done|rfl)),trivial⟩,⟨(by(simp only[hA,q1,q2,sS,wZ,o8,fO,gB,iD,gy]);(first|done|rfl)),trivial⟩,by omega,(by show l.length-(x+1)<l.length-x;omega)⟩⟩)|(have q1:=Ij (n:=(l.getD x N0).2) (l:=l) (s:=(l.getD x N0).1.layer) (i:=x) (k:=0) (v:=a) (by assumption);have q2:=GR (n:=(l.getD x N0).2) (l:=l) (s:=(l.getD x N0).1.layer) (i:=x) (k:=1) (v:=b) (by assumption);(conv=>whnf);exact⟨x+1,⟨⟨rfl,rfl,rfl,aW (by omega),(by(simp only[hA,q1,q2,sS,wZ,o8,fO,gB,iD,gy,gY,bK,iH,jf]);(first|done|rfl)),trivial⟩,⟨(by(simp only[hA,q1,q2,sS,wZ,o8,fO,gB,iD,gy]);(first|done|rfl)),trivial⟩,by omega,(by show l.length-(x+1)<l.length-x;omega)⟩⟩)|(have q1:=GR (n:=(l.getD x N0).2) (l:=l) (s:=(l.getD x N0).1.layer) (i:=x) (k:=0) (v:=a) (by assumption);have q2:=Ij (n:=(l.getD x N0).2) (l:=l) (s:=(l.getD x N0).1.layer) (i:=x) (k:=1) (v:=b) (by assumption);(conv=>whnf);exact⟨x+1,⟨⟨rfl,rfl,rfl,aW (by omega),(by(simp only[hA,q1,q2,sS,wZ,o8,fO,gB,iD,gy,gY,bK,iH,jf]);(first|done|rfl)),trivial⟩,⟨(by(simp only[hA,q1,q2,sS,wZ,o8,fO,gB,iD,gy]);(first|done|rfl)),trivial⟩,by omega,(by show l.length-(x+1)<l.length-x;omega)⟩⟩)|(have q1:=GR (n:=(l.getD x N0).2) (l:=l) (s:=(l.getD x N0).1.layer) (i:=x) (k:=0) (v:=a) (by assumption);have q2:=GR (n:=(l.getD x N0).2) (l:=l) (s:=(l.getD x N0).1.layer) (i:=x) (k:=1) (v:=b) (by assumption);(conv=>whnf);exact⟨x+1,⟨⟨rfl,rfl,rfl,aW (by omega),(by(simp only[hA,q1,q2,sS,wZ,o8,fO,gB,iD,gy,gY,bK,iH,jf]);(first|done|rfl)),trivial⟩,⟨(by(simp only[hA,q1,q2,sS,wZ,o8,fO,gB,iD,gy]);(first|done|rfl)),trivial⟩,by omega,(by show l.length-(x+1)<l.length-x;omega)⟩⟩))⟩
instance akX(es:List Ent)(sL:Nat)(ls:List (List Cell)):DenI Tryz.prog 76 [.agg [.sl sL ls,.sl 7 (es.map cO)]] (es.length≤12) (.c (.sl 8 (es.zipIdx.map jV))):=⟨λh1=>by
 refine den_of (τ:=CZ) kC eF Tryz.func76 rfl (by kernel_rfl) (by kernel_rfl) (by kernel_rfl) ?_
 (conv=>whnf)
 refine Sw.Loop.ghost 3 100 86 8 ?_ rfl rfl rfl (by decide);refine Sw.Loop.inv (α:=Nat) (λx=>[(7,.c (.sl 7 (es.map cO))),(8,.int .i64 (es.length:Nat)),(9,.int .i64 (x:Nat)),(3,.gs 100 ((aC es x).map jV).length)]) (λx=>[(100,.grow 86 8 ((aC es x).map jV))]) (λx=>x≤es.length) (λx=>es.length-x) 0 ?_ ?_ ?_ (λx hx=>?_)
 ·exact⟨rfl,by simp only[bK];rfl,rfl,rfl,trivial⟩
 ·exact⟨rfl,trivial⟩
 ·exact oW _
 have hal:=abv hx
 all_goals(repeat'((try(conv=>whnf));first
  |refine call_0 ?_|refine call_i ?_ ?_|refine call_c ?_ (λ_=>?_) (λ_=>?_)|(with_reducible first|refine onB_t ?_|refine onB_f ?_|refine onB_d (λ_=>?_) (λ_=>?_)|refine onB_n (λ_=>?_) (λ_=>?_))|refine OnB.mk (λ_=>?_) (λ_=>?_)|refine obl_i ?_ ?_|refine Drw.mk (by kernel_rfl) ?_|refine mks_i ?_ ?_|refine slp_i ?_ ?_|(with_reducible first|refine elem_u ?_ ?_|refine elem_0 ?_|refine elem_1 ?_)|refine elem_map E0 ?_ ?_|refine Ends.mk ?_))
 all_goals(try refine Pr.mk ?_)
 all_goals(try simp only[bK,fU]at *)
 all_goals first
  |((with_reducible show(_:Nat)=_);rfl)|omega|((with_reducible show(_:Nat)≤_);simp only[gY,bK,iH,jf];omega)|((with_reducible show packA _=_);have hxx:x=es.length:=(by omega);subst hxx;rw[Z8];rfl)|(have hA:=Zh (es:=es) (x:=x) (by omega);(conv=>whnf);exact⟨x+1,⟨⟨rfl,rfl,aW (by omega),(by(simp only[hA,fO,gB,iD,gy,gY,bK,iH,jf]);(first|done|rfl)),trivial⟩,⟨(by(simp only[hA,fO,gB,iD,gy]);(first|done|rfl)),trivial⟩,by omega,(by show es.length-(x+1)<es.length-x;omega)⟩⟩)|skip⟩
instance amj(a b c d:Rat):DenI Tryz.prog 56 [Q2 a b,Q2 c d] (rz a≤1000∧rz b≤1000∧rz c≤1000∧rz d≤1000) (.bool (decide (a=c) && decide (b=d))):=⟨λhp=>by
 have i_a:RzB a 1000:=⟨hp.1⟩
 have i_b:RzB b 1000:=⟨hp.2.1⟩
 have i_c:RzB c 1000:=⟨hp.2.2.1⟩
 have i_d:RzB d 1000:=⟨hp.2.2.2⟩
 all_goals refine den_of (τ:=tab) Pj eF Tryz.func56 rfl (by kernel_rfl) (by kernel_rfl) (by kernel_rfl) ?_
 all_goals(repeat'((try(conv=>whnf));first
  |refine call_0 ?_|refine call_i ?_ ?_|refine call_c ?_ (λ_=>?_) (λ_=>?_)|(with_reducible first|refine onB_t ?_|refine onB_f ?_|refine onB_d (λ_=>?_) (λ_=>?_)|refine onB_n (λ_=>?_) (λ_=>?_))|refine OnB.mk (λ_=>?_) (λ_=>?_)|refine obl_i ?_ ?_|refine Drw.mk (by kernel_rfl) ?_|refine mks_i ?_ ?_|refine slp_i ?_ ?_|(with_reducible first|refine elem_u ?_ ?_|refine elem_0 ?_|refine elem_1 ?_)|refine Ends.mk ?_))
 all_goals(try refine Pr.mk ?_)
 all_goals(try simp only[am3]at *)
 all_goals first
  |rfl|(simp only[Eb,Ea,aj,aH,ZY,Fb,aG, *,true_or,or_true,if_true,if_false,or_self,and_self,and_true,true_and,and_false,false_and,not_true,not_false_iff,AB,decide_true,decide_false,Vf,Vg,NH,G7];rfl)|((repeat' apply And.intro)<;>first|assumption|exact jh (by omega)|exact jl (by omega)|exact iU (amR _) (amR _))|(exfalso;simp_all;done)|(exfalso;grind)|omega|((repeat' apply And.intro)<;>first|assumption|exact jh (by omega)|exact jl (by omega)|exact iU (amR _) (amR _))|skip⟩
instance KZ(a b:List P2):DenI Tryz.prog 130 [.c (.sl 8 (a.map vecC)),.c (.sl 8 (b.map vecC))] (a.length≤1000∧b.length≤1000∧(∀p∈a,aV p)∧∀p∈b,aV p) (.bool (uz a b)):=⟨λ⟨h1,h2,h3,h4⟩=>by
 refine den_of (τ:=CZ) kC eF Tryz.func130 rfl (by kernel_rfl) (by kernel_rfl) (by kernel_rfl) ?_
 all_goals(repeat'((try(conv=>whnf));first
  |refine call_0 ?_|refine call_i ?_ ?_|refine call_c ?_ (λ_=>?_) (λ_=>?_)|(with_reducible first|refine onB_t ?_|refine onB_f ?_|refine onB_d (λ_=>?_) (λ_=>?_)|refine onB_n (λ_=>?_) (λ_=>?_))|refine OnB.mk (λ_=>?_) (λ_=>?_)|refine obl_i ?_ ?_|refine Drw.mk (by kernel_rfl) ?_|refine mks_i ?_ ?_|refine slp_i ?_ ?_|(with_reducible first|refine elem_u ?_ ?_|refine elem_0 ?_|refine elem_1 ?_)|refine elem_map P0 ?_ ?_|refine Ends.mk ?_))
 all_goals(try refine Pr.mk ?_)
 all_goals first
  |((conv=>whnf);refine Sw.Loop.inv (α:=Nat) (λx=>[(0,.c (.sl 8 (a.map vecC))),(1,.c (.sl 8 (b.map vecC))),(5,.bool (decide (a.take x=b.take x))),(6,.bool (decide (a.take x=b.reverse.take x))),(7,.int .i64 (x:Nat))]) (λx=>[]) (λx=>x≤a.length) (λx=>a.length-x) 0 ?_ ?_ ?_ (λx hx=>?_))|skip
 all_goals(repeat'((try(conv=>whnf));first
  |refine call_0 ?_|refine call_i ?_ ?_|refine call_c ?_ (λ_=>?_) (λ_=>?_)|(with_reducible first|refine onB_t ?_|refine onB_f ?_|refine onB_d (λ_=>?_) (λ_=>?_)|refine onB_n (λ_=>?_) (λ_=>?_))|refine OnB.mk (λ_=>?_) (λ_=>?_)|refine obl_i ?_ ?_|refine Drw.mk (by kernel_rfl) ?_|refine mks_i ?_ ?_|refine slp_i ?_ ?_|(with_reducible first|refine elem_u ?_ ?_|refine elem_0 ?_|refine elem_1 ?_)|refine elem_map P0 ?_ ?_|refine Ends.mk ?_))
 all_goals(try refine Pr.mk ?_)
 all_goals(try simp only[bK,fU]at *)
 all_goals(try simp(disch:=omega) only[bW]at *)
 all_goals first
  |omega|trivial|exact oW _|exact⟨rfl,rfl,rfl,rfl,rfl,trivial⟩|exact⟨dh (BP h3 _).1 (by decide),dh (BP h3 _).2 (by decide),dh (BP h4 _).1 (by decide),dh (BP h4 _).2 (by decide)⟩|((with_reducible show packA _=_);rw[Z5 (by omega)];rfl)|((with_reducible show packA _=_);have hxx:x=a.length:=(by omega);subst hxx;have d1:decide (a.take a.length=b.take a.length)=true:=decide_eq_true (by assumption);rw[Ky (by omega),d1];rfl)|((with_reducible show packA _=_);have hxx:x=a.length:=(by omega);subst hxx;have d1:decide (a.take a.length=b.take a.length)=false:=decide_eq_false (by assumption);rw[Ky (by omega),d1,G7];rfl)|(have hti:((b.length:Int)-1-(x:Int)).toNat=b.length-1-x:=(by omega);(first|have d1:decide (a.take x=b.take x)=true:=decide_eq_true (by assumption)|have d1:decide (a.take x=b.take x)=false:=decide_eq_false (by assumption));(first|have d2:decide (a.take x=b.reverse.take x)=true:=decide_eq_true (by assumption)|have d2:decide (a.take x=b.reverse.take x)=false:=decide_eq_false (by assumption));(conv=>whnf);exact⟨x+1,⟨⟨rfl,rfl,(by show some (AV.bool _)=some (AV.bool _);rw[QN (a:=a) (b:=b) (x:=x) (by omega) (by omega),d1];(try simp only[hti]);(first|done|rfl|simp only[KP,aB])),(by show some (AV.bool _)=some (AV.bool _);rw[QN (a:=a) (b:=b.reverse) (x:=x) (by omega) (by rw[List.length_reverse];omega),rev_at (b:=b) (x:=x) (by omega),d2];(try simp only[hti]);(first|done|rfl|simp only[KP,aB])),aW (by omega),trivial⟩,trivial,by omega,(by show a.length-(x+1)<a.length-x;omega)⟩⟩)|skip⟩
instance alj(l:ByteArray)(a b:P2)(r:Rq):DenI Tryz.prog 30 [.agg [.v (.int .i64 1),.v (.string l),.sl 8 [vecC a,vecC b],.v (.bool r.a),lmc r.l,.v (.bool r.b),lmc r.m]] True (.tup [.c (.sl 8 [vecC a,vecC b]),.bool true]):=⟨λ_=>by
 have h:=(nY ⟨1,l,[a,b],r⟩).den (by show _≤1000000;simp);simp only[aS]at h
 exact h⟩
instance alk(l:ByteArray)(a m b:P2)(r:Rq):DenI Tryz.prog 30 [.agg [.v (.int .i64 2),.v (.string l),.sl 8 [vecC a,vecC m,vecC b],.v (.bool r.a),lmc r.l,.v (.bool r.b),lmc r.m]] True (.tup [.c (.sl 8 [vecC a,vecC b]),.bool true]):=⟨λ_=>by
 have h:=(nY ⟨2,l,[a,m,b],r⟩).den (by show _≤1000000;simp);simp only[aS]at h
 exact h⟩
instance akO(l:ByteArray)(a:P2)(q:Rat):DenI Tryz.prog 30 [.agg [.v (.int .i64 3),.v (.string l),.sl 8 [vecC a],zs q.num,zl q.num,zs q.den,zl q.den]] True (.tup [.c (.sl 8 []),.bool false]):=⟨λ_=>by
 have h:=(nY ⟨3,l,[a],qI q⟩).den (by show _≤1000000;simp);simp only[aS]at h
 exact h⟩
instance agL(l:ByteArray)(a m b:P2)(r:Rq):DenI Tryz.prog 95 [.agg [.v (.int .i64 2),.v (.string l),.sl 8 [vecC a,vecC m,vecC b],.v (.bool r.a),lmc r.l,.v (.bool r.b),lmc r.m]] (aV a∧aV m∧aV b) (.bool (decide (jE a m b=0))):=⟨λhp=>by
 obtain⟨g1,g2,g3⟩:=hp
 all_goals refine den_of (τ:=tab) Pj eF Tryz.func95 rfl (by kernel_rfl) (by kernel_rfl) (by kernel_rfl) ?_
 all_goals(repeat'((try(conv=>whnf));first
  |refine call_c ?_ (λ_=>?_) (λ_=>?_)|refine Drw.mk (by kernel_rfl) ?_|(with_reducible first|refine elem_0 ?_|refine elem_1 ?_|refine NZ ?_)|refine Ends.mk ?_))
 all_goals(try refine Pr.mk ?_)
 all_goals(try simp only[am3]at *)
 all_goals first
  |exact bE (decide_eq_true (by assumption)).symm|exact bE (decide_eq_false (by assumption)).symm|exact⟨dh g1.1 (by decide),dh g1.2 (by decide),dh g2.1 (by decide),dh g2.2 (by decide),dh g3.1 (by decide),dh g3.2 (by decide)⟩⟩
instance amJ(l1 l2:ByteArray)(a m b c n d:P2)(r1 r2:Rq):DenI Tryz.prog 126 [.agg [.v (.int .i64 2),.v (.string l1),.sl 8 [vecC a,vecC m,vecC b],.v (.bool r1.a),lmc r1.l,.v (.bool r1.b),lmc r1.m],.agg [.v (.int .i64 2),.v (.string l2),.sl 8 [vecC c,vecC n,vecC d],.v (.bool r2.a),lmc r2.l,.v (.bool r2.b),lmc r2.m]] (aV c∧aV n∧aV d∧aV m) (.bool (zY c n d m)):=⟨λhp=>by
 obtain⟨g1,g2,g3,g4⟩:=hp
 all_goals refine den_of (τ:=tab) Pj eF Tryz.func126 rfl (by kernel_rfl) (by kernel_rfl) (by kernel_rfl) ?_
 all_goals(repeat'((try(conv=>whnf));first
  |refine call_i ?_ ?_|refine call_c ?_ (λ_=>?_) (λ_=>?_)|(with_reducible first|refine onB_t ?_|refine onB_f ?_|refine onB_d (λ_=>?_) (λ_=>?_))|refine Drw.mk (by kernel_rfl) ?_|(with_reducible first|refine elem_0 ?_|refine elem_1 ?_|refine NZ ?_)|refine Ends.mk ?_))
 all_goals(try refine Pr.mk ?_)
 all_goals(try simp only[am3]at *)
 all_goals first
  |(exfalso;rename ¬True=>h;exact h trivial)|(exfalso;omega)|exact bE (PO (a:=c) (b:=n) (c:=d) (p:=m) (by assumption))|exact bE (VU (a:=c) (b:=n) (c:=d) (p:=m) (by assumption)).symm|exact⟨(yS g1 g2 g3).1,(yS g1 g2 g3).2.1,(yS g1 g2 g3).2.2,g1.1,g1.2,g3.1,g3.2,g4.1,g4.2⟩|exact⟨dh g1.1 (by decide),dh g1.2 (by decide),dh g2.1 (by decide),dh g2.2 (by decide),dh g3.1 (by decide),dh g3.2 (by decide)⟩|exact⟨dh g4.1 (by decide),dh g4.2 (by decide)⟩⟩
instance ahi(l1 l2:ByteArray)(a b c d:P2)(r1:Rq)(r2:Rq):DenI Tryz.prog 96 [.agg [.v (.int .i64 1),.v (.string l1),.sl 8 [vecC a,vecC b],.v (.bool r1.a),lmc r1.l,.v (.bool r1.b),lmc r1.m],.agg [.v (.int .i64 1),.v (.string l2),.sl 8 [vecC c,vecC d],.v (.bool r2.a),lmc r2.l,.v (.bool r2.b),lmc r2.m]] (aV a∧aV b∧aV c∧aV d) (.bool (dB ⟨1,l1,[a,b],r1⟩ ⟨1,l2,[c,d],r2⟩)):=⟨λhp=>by
 obtain⟨g1,g2,g3,g4⟩:=hp
 all_goals refine den_of (τ:=tab) Pj eF Tryz.func96 rfl (by kernel_rfl) (by kernel_rfl) (by kernel_rfl) ?_
 all_goals(repeat'((try(conv=>whnf));first
  |refine call_0 ?_|refine call_i ?_ ?_|(with_reducible first|refine onB_t ?_|refine onB_f ?_|refine onB_d (λ_=>?_) (λ_=>?_)|refine onB_n (λ_=>?_) (λ_=>?_))|refine OnB.mk (λ_=>?_) (λ_=>?_)|refine Drw.mk (by kernel_rfl) ?_|(with_reducible first|refine elem_0 ?_|refine elem_1 ?_)|refine Ends.mk ?_))
 all_goals(try refine Pr.mk ?_)
 all_goals(try simp only[am3]at *)
 all_goals first
  |(exfalso;rename ¬True=>h;exact h trivial)|(exfalso;omega)|exact⟨dh g1.1 (by decide),dh g1.2 (by decide),dh g3.1 (by decide),dh g3.2 (by decide)⟩|exact⟨dh g2.1 (by decide),dh g2.2 (by decide),dh g4.1 (by decide),dh g4.2 (by decide)⟩|exact⟨dh g1.1 (by decide),dh g1.2 (by decide),dh g4.1 (by decide),dh g4.2 (by decide)⟩|exact⟨dh g2.1 (by decide),dh g2.2 (by decide),dh g3.1 (by decide),dh g3.2 (by decide)⟩|trivial|(refine bE ?_;rw[Lj];simp only[BR,Bool.not_eq_false']at *;simp only[pE, *,Bool.and_true,KP,Bool.and_false,aB,NH,G7,Vf,Vg,decide_true,decide_false,if_true,if_false,AB,Bool.not_true,Bool.not_false,beq_self_eq_true];done)⟩
instance afP(l1 l2:ByteArray)(a b c n d:P2)(r1:Rq)(r2:Rq):DenI Tryz.prog 96 [.agg [.v (.int .i64 1),.v (.string l1),.sl 8 [vecC a,vecC b],.v (.bool r1.a),lmc r1.l,.v (.bool r1.b),lmc r1.m],.agg [.v (.int .i64 2),.v (.string l2),.sl 8 [vecC c,vecC n,vecC d],.v (.bool r2.a),lmc r2.l,.v (.bool r2.b),lmc r2.m]] (aV a∧aV b∧aV c∧aV n∧aV d) (.bool (dB ⟨1,l1,[a,b],r1⟩ ⟨2,l2,[c,n,d],r2⟩)):=⟨λhp=>by
 obtain⟨g1,g2,g3,g4,g5⟩:=hp
 all_goals refine den_of (τ:=tab) Pj eF Tryz.func96 rfl (by kernel_rfl) (by kernel_rfl) (by kernel_rfl) ?_
 all_goals(repeat'((try(conv=>whnf));first
  |refine call_0 ?_|refine call_i ?_ ?_|(with_reducible first|refine onB_t ?_|refine onB_f ?_|refine onB_d (λ_=>?_) (λ_=>?_)|refine onB_n (λ_=>?_) (λ_=>?_))|refine OnB.mk (λ_=>?_) (λ_=>?_)|refine Drw.mk (by kernel_rfl) ?_|(with_reducible first|refine elem_0 ?_|refine elem_1 ?_)|refine Ends.mk ?_))
 all_goals(try refine Pr.mk ?_)
 all_goals(try simp only[am3]at *)
 all_goals first
  |(exfalso;rename ¬True=>h;exact h trivial)|(exfalso;omega)|(refine bE ?_;rw[ku (by show¬((1:Int)=2);decide)];done)⟩
instance agp(l1 l2:ByteArray)(a b c:P2)(r1:Rq)(q2:Rat):DenI Tryz.prog 96 [.agg [.v (.int .i64 1),.v (.string l1),.sl 8 [vecC a,vecC b],.v (.bool r1.a),lmc r1.l,.v (.bool r1.b),lmc r1.m],.agg [.v (.int .i64 3),.v (.string l2),.sl 8 [vecC c],zs q2.num,zl q2.num,zs q2.den,zl q2.den]] (aV a∧aV b∧aV c∧rz q2≤12) (.bool (dB ⟨1,l1,[a,b],r1⟩ ⟨3,l2,[c],qI q2⟩)):=⟨λhp=>by
 obtain⟨g1,g2,g3,g4⟩:=hp
 all_goals refine den_of (τ:=tab) Pj eF Tryz.func96 rfl (by kernel_rfl) (by kernel_rfl) (by kernel_rfl) ?_
 all_goals(repeat'((try(conv=>whnf));first
  |refine call_0 ?_|refine call_i ?_ ?_|(with_reducible first|refine onB_t ?_|refine onB_f ?_|refine onB_d (λ_=>?_) (λ_=>?_)|refine onB_n (λ_=>?_) (λ_=>?_))|refine OnB.mk (λ_=>?_) (λ_=>?_)|refine Drw.mk (by kernel_rfl) ?_|(with_reducible refine elem_0 ?_)|refine Ends.mk ?_))
 all_goals(try refine Pr.mk ?_)
 all_goals(try simp only[am3]at *)
 all_goals first
  |(exfalso;omega)|(refine bE ?_;rw[ku (by show¬((1:Int)=3);decide)];done)⟩
instance afE(l1 l2:ByteArray)(a m b c d:P2)(r1:Rq)(r2:Rq):DenI Tryz.prog 96 [.agg [.v (.int .i64 2),.v (.string l1),.sl 8 [vecC a,vecC m,vecC b],.v (.bool r1.a),lmc r1.l,.v (.bool r1.b),lmc r1.m],.agg [.v (.int .i64 1),.v (.string l2),.sl 8 [vecC c,vecC d],.v (.bool r2.a),lmc r2.l,.v (.bool r2.b),lmc r2.m]] (aV a∧aV m∧aV b∧aV c∧aV d) (.bool (dB ⟨2,l1,[a,m,b],r1⟩ ⟨1,l2,[c,d],r2⟩)):=⟨λhp=>by
 obtain⟨g1,g2,g3,g4,g5⟩:=hp
 all_goals refine den_of (τ:=tab) Pj eF Tryz.func96 rfl (by kernel_rfl) (by kernel_rfl) (by kernel_rfl) ?_
 all_goals(repeat'((try(conv=>whnf));first
  |refine call_0 ?_|refine call_i ?_ ?_|(with_reducible first|refine onB_t ?_|refine onB_f ?_|refine onB_d (λ_=>?_) (λ_=>?_)|refine onB_n (λ_=>?_) (λ_=>?_))|refine OnB.mk (λ_=>?_) (λ_=>?_)|refine Drw.mk (by kernel_rfl) ?_|(with_reducible first|refine elem_0 ?_|refine elem_1 ?_)|refine Ends.mk ?_))
 all_goals(try refine Pr.mk ?_)
 all_goals(try simp only[am3]at *)
 all_goals first
  |(exfalso;omega)|(refine bE ?_;rw[ku (by show¬((2:Int)=1);decide)];done)⟩
instance agA(l1 l2:ByteArray)(a m b c n d:P2)(r1:Rq)(r2:Rq):DenI Tryz.prog 96 [.agg [.v (.int .i64 2),.v (.string l1),.sl 8 [vecC a,vecC m,vecC b],.v (.bool r1.a),lmc r1.l,.v (.bool r1.b),lmc r1.m],.agg [.v (.int .i64 2),.v (.string l2),.sl 8 [vecC c,vecC n,vecC d],.v (.bool r2.a),lmc r2.l,.v (.bool r2.b),lmc r2.m]] (aV a∧aV m∧aV b∧aV c∧aV n∧aV d) (.bool (dB ⟨2,l1,[a,m,b],r1⟩ ⟨2,l2,[c,n,d],r2⟩)):=⟨λhp=>by
 obtain⟨g1,g2,g3,g4,g5,g6⟩:=hp
 all_goals refine den_of (τ:=tab) Pj eF Tryz.func96 rfl (by kernel_rfl) (by kernel_rfl) (by kernel_rfl) ?_
 all_goals(repeat'((try(conv=>whnf));first
  |refine call_0 ?_|refine call_i ?_ ?_|(with_reducible first|refine onB_t ?_|refine onB_f ?_|refine onB_d (λ_=>?_) (λ_=>?_)|refine onB_n (λ_=>?_) (λ_=>?_))|refine OnB.mk (λ_=>?_) (λ_=>?_)|refine Drw.mk (by kernel_rfl) ?_|(with_reducible first|refine elem_0 ?_|refine elem_1 ?_)|refine Ends.mk ?_))
 all_goals(try refine Pr.mk ?_)
 all_goals(try simp only[am3]at *)
 all_goals first
  |(exfalso;rename ¬True=>h;exact h trivial)|(exfalso;omega)|exact⟨dh g1.1 (by decide),dh g1.2 (by decide),dh g4.1 (by decide),dh g4.2 (by decide)⟩|exact⟨dh g3.1 (by decide),dh g3.2 (by decide),dh g6.1 (by decide),dh g6.2 (by decide)⟩|exact⟨dh g1.1 (by decide),dh g1.2 (by decide),dh g6.1 (by decide),dh g6.2 (by decide)⟩|exact⟨dh g3.1 (by decide),dh g3.2 (by decide),dh g4.1 (by decide),dh g4.2 (by decide)⟩|exact⟨dh g2.1 (by decide),dh g2.2 (by decide),dh g5.1 (by decide),dh g5.2 (by decide)⟩|exact⟨g1,g2,g3⟩|exact⟨g4,g5,g6⟩|exact⟨g4,g5,g6,g2⟩|exact⟨g1,g2,g3,g5⟩|trivial|(refine bE ?_;rw[XH];simp only[BR,Bool.not_eq_false']at *;simp only[pE, *,Bool.and_true,KP,Bool.and_false,aB,NH,G7,Vf,Vg,decide_true,decide_false,if_true,if_false,AB,Bool.not_true,Bool.not_false,beq_self_eq_true];done)⟩
instance agh(l1 l2:ByteArray)(a m b c:P2)(r1:Rq)(q2:Rat):DenI Tryz.prog 96 [.agg [.v (.int .i64 2),.v (.string l1),.sl 8 [vecC a,vecC m,vecC b],.v (.bool r1.a),lmc r1.l,.v (.bool r1.b),lmc r1.m],.agg [.v (.int .i64 3),.v (.string l2),.sl 8 [vecC c],zs q2.num,zl q2.num,zs q2.den,zl q2.den]] (aV a∧aV m∧aV b∧aV c∧rz q2≤12) (.bool (dB ⟨2,l1,[a,m,b],r1⟩ ⟨3,l2,[c],qI q2⟩)):=⟨λhp=>by
 obtain⟨g1,g2,g3,g4,g5⟩:=hp
 all_goals refine den_of (τ:=tab) Pj eF Tryz.func96 rfl (by kernel_rfl) (by kernel_rfl) (by kernel_rfl) ?_
 all_goals(repeat'((try(conv=>whnf));first
  |refine call_0 ?_|refine call_i ?_ ?_|(with_reducible first|refine onB_t ?_|refine onB_f ?_|refine onB_d (λ_=>?_) (λ_=>?_)|refine onB_n (λ_=>?_) (λ_=>?_))|refine OnB.mk (λ_=>?_) (λ_=>?_)|refine Drw.mk (by kernel_rfl) ?_|(with_reducible refine elem_0 ?_)|refine Ends.mk ?_))
 all_goals(try refine Pr.mk ?_)
 all_goals(try simp only[am3]at *)
 all_goals first
  |(exfalso;omega)|(refine bE ?_;rw[ku (by show¬((2:Int)=3);decide)];done)⟩
instance agn(l1 l2:ByteArray)(a c d:P2)(q1:Rat)(r2:Rq):DenI Tryz.prog 96 [.agg [.v (.int .i64 3),.v (.string l1),.sl 8 [vecC a],zs q1.num,zl q1.num,zs q1.den,zl q1.den],.agg [.v (.int .i64 1),.v (.string l2),.sl 8 [vecC c,vecC d],.v (.bool r2.a),lmc r2.l,.v (.bool r2.b),lmc r2.m]] (aV a∧aV c∧aV d∧rz q1≤12) (.bool (dB ⟨3,l1,[a],qI q1⟩ ⟨1,l2,[c,d],r2⟩)):=⟨λhp=>by
 obtain⟨g1,g2,g3,g4⟩:=hp
 all_goals refine den_of (τ:=tab) Pj eF Tryz.func96 rfl (by kernel_rfl) (by kernel_rfl) (by kernel_rfl) ?_
 all_goals(repeat'((try(conv=>whnf));first
  |refine call_0 ?_|refine call_i ?_ ?_|(with_reducible first|refine onB_t ?_|refine onB_f ?_|refine onB_d (λ_=>?_) (λ_=>?_)|refine onB_n (λ_=>?_) (λ_=>?_))|refine OnB.mk (λ_=>?_) (λ_=>?_)|refine Drw.mk (by kernel_rfl) ?_|(with_reducible refine elem_0 ?_)|refine Ends.mk ?_))
 all_goals(try refine Pr.mk ?_)
 all_goals(try simp only[am3]at *)
 all_goals first
  |(exfalso;rename ¬True=>h;exact h trivial)|(exfalso;omega)|(refine bE ?_;rw[ku (by show¬((3:Int)=1);decide)];done)⟩
instance ag5(l1 l2:ByteArray)(a c n d:P2)(q1:Rat)(r2:Rq):DenI Tryz.prog 96 [.agg [.v (.int .i64 3),.v (.string l1),.sl 8 [vecC a],zs q1.num,zl q1.num,zs q1.den,zl q1.den],.agg [.v (.int .i64 2),.v (.string l2),.sl 8 [vecC c,vecC n,vecC d],.v (.bool r2.a),lmc r2.l,.v (.bool r2.b),lmc r2.m]] (aV a∧aV c∧aV n∧aV d∧rz q1≤12) (.bool (dB ⟨3,l1,[a],qI q1⟩ ⟨2,l2,[c,n,d],r2⟩)):=⟨λhp=>by
 obtain⟨g1,g2,g3,g4,g5⟩:=hp
 all_goals refine den_of (τ:=tab) Pj eF Tryz.func96 rfl (by kernel_rfl) (by kernel_rfl) (by kernel_rfl) ?_
 all_goals(repeat'((try(conv=>whnf));first
  |refine call_0 ?_|refine call_i ?_ ?_|(with_reducible first|refine onB_t ?_|refine onB_f ?_|refine onB_d (λ_=>?_) (λ_=>?_)|refine onB_n (λ_=>?_) (λ_=>?_))|refine OnB.mk (λ_=>?_) (λ_=>?_)|refine Drw.mk (by kernel_rfl) ?_|(with_reducible refine elem_0 ?_)|refine Ends.mk ?_))
 all_goals(try refine Pr.mk ?_)
 all_goals(try simp only[am3]at *)
 all_goals first
  |(exfalso;rename ¬True=>h;exact h trivial)|(exfalso;omega)|(refine bE ?_;rw[ku (by show¬((3:Int)=2);decide)];done)⟩
instance afH(l1 l2:ByteArray)(a c:P2)(q1:Rat)(q2:Rat):DenI Tryz.prog 96 [.agg [.v (.int .i64 3),.v (.string l1),.sl 8 [vecC a],zs q1.num,zl q1.num,zs q1.den,zl q1.den],.agg [.v (.int .i64 3),.v (.string l2),.sl 8 [vecC c],zs q2.num,zl q2.num,zs q2.den,zl q2.den]] (aV a∧aV c∧rz q1≤12∧rz q2≤12) (.bool (dB ⟨3,l1,[a],qI q1⟩ ⟨3,l2,[c],qI q2⟩)):=⟨λhp=>by
 obtain⟨g1,g2,g3,g4⟩:=hp
 all_goals refine den_of (τ:=tab) Pj eF Tryz.func96 rfl (by kernel_rfl) (by kernel_rfl) (by kernel_rfl) ?_
 all_goals(repeat'((try(conv=>whnf));first
  |refine call_0 ?_|refine call_i ?_ ?_|(with_reducible first|refine onB_t ?_|refine onB_f ?_|refine onB_d (λ_=>?_) (λ_=>?_)|refine onB_n (λ_=>?_) (λ_=>?_))|refine OnB.mk (λ_=>?_) (λ_=>?_)|refine Drw.mk (by kernel_rfl) ?_|(with_reducible refine elem_0 ?_)|refine Ends.mk ?_))
 all_goals(try refine Pr.mk ?_)
 all_goals(try simp only[am3]at *)
 all_goals first
  |(exfalso;rename ¬True=>h;exact h trivial)|exact⟨dh g1.1 (by decide),dh g1.2 (by decide),dh g2.1 (by decide),dh g2.2 (by decide)⟩|exact⟨dh g3 (by decide),dh g4 (by decide)⟩|(refine bE ?_;rw[Kz];simp only[BR,Bool.not_eq_false']at *;simp only[pE, *,Bool.and_true,KP,Bool.and_false,aB,NH,G7,Vf,Vg,decide_true,decide_false,if_true,if_false,AB,Bool.not_true,Bool.not_false,beq_self_eq_true];done)⟩
instance(priority:=2000) ajH(e f:Ent):DenI Tryz.prog 96 [.agg (cO e),.agg (cO f)] (okV e∧okV f) (.bool (dB e f)):=⟨λ⟨h1,h2⟩=>by
 rcases qF h1 with⟨l1,a,b,r1,rfl,g1,g3,_⟩|⟨l1,a,m,b,r1,rfl,g1,g2,g3,_⟩|⟨l1,a,q1,rfl,g1,_,g7,_⟩<;>rcases qF h2 with⟨l2,c,d,r2,rfl,g4,g6,_⟩|⟨l2,c,n,d,r2,rfl,g4,g5,g6,_⟩|⟨l2,c,q2,rfl,g4,_,g8,_⟩
 ·exact(ahi l1 l2 a b c d r1 r2).den ⟨g1,g3,g4,g6⟩
 ·exact(afP l1 l2 a b c n d r1 r2).den ⟨g1,g3,g4,g5,g6⟩
 ·exact(agp l1 l2 a b c r1 q2).den ⟨g1,g3,g4,g8⟩
 ·exact(afE l1 l2 a m b c d r1 r2).den ⟨g1,g2,g3,g4,g6⟩
 ·exact(agA l1 l2 a m b c n d r1 r2).den ⟨g1,g2,g3,g4,g5,g6⟩
 ·exact(agh l1 l2 a m b c r1 q2).den ⟨g1,g2,g3,g4,g8⟩
 ·exact(agn l1 l2 a c d q1 r2).den ⟨g1,g4,g6,g7⟩
 ·exact(ag5 l1 l2 a c n d q1 r2).den ⟨g1,g4,g5,g6,g7⟩
 ·exact(afH l1 l2 a c q1 q2).den ⟨g1,g4,g7,g8⟩⟩
instance(priority:=2000) akY(e:Ent):DenI Tryz.prog 95 [.agg (cO e)] (e.kind=2∧okV e) (.bool (EP e)):=⟨λ⟨h0,h1⟩=>by
 rcases qF h1 with⟨l1,a,b,r1,rfl,_⟩|⟨l1,a,m,b,r1,rfl,g1,g2,g3,_⟩|⟨l1,a,q1,rfl,_⟩
 ·cases h0
 ·exact(agL l1 a m b r1).den ⟨g1,g2,g3⟩
 ·cases h0⟩
@[reducible] def bC(b:Bool):List Cell:=[.v (.bool b)]
instance akr(l:List (Ent × Nat)):DenI Tryz.prog 52 [.c (.sl 8 (l.map jV))] (l.length≤12∧∀x∈l,okV x.1) (.c (.sl 1 ((aY (l.map (·.1))).map bC))):=⟨λhp=>by
 obtain⟨h1,h4⟩:=hp
 all_goals refine den_of (τ:=tab) Pj eF Tryz.func52 rfl (by kernel_rfl) (by kernel_rfl) (by kernel_rfl) ?_
 all_goals(repeat'((try(conv=>whnf));first
  |refine mks_i ?_ ?_))
 all_goals(try refine Pr.mk ?_)
 all_goals first
  |((conv=>whnf);refine Sw.Loop.inv (α:=Nat) (λx=>[(0,.c (.sl 8 (l.map jV))),(3,.gs 8 l.length),(10,.int .i64 (l.length:Nat)),(11,.int .i64 (x:Nat))]) (λx=>[(8,.grow 4 1 ((zZ (l.map (·.1)) x).map bC))]) (λx=>x≤l.length) (λx=>l.length-x) 0 ?_ ?_ ?_ (λx hx=>?_))|skip
 all_goals(repeat'((try(conv=>whnf));first
  |(with_reducible refine onB_d (λ_=>?_) (λ_=>?_))|refine obl_i ?_ ?_|refine Ends.mk ?_))
 all_goals(try refine Pr.mk ?_)
 all_goals first
  |((conv=>whnf);refine Sw.Loop.inv (α:=Nat) (λk=>[(0,.c (.sl 8 (l.map jV))),(3,.gs 8 l.length),(4,.int .i64 (x:Nat)),(10,.int .i64 (l.length:Nat)),(11,.int .i64 (x:Nat)),(14,.int .i64 (x:Nat)),(15,.int .i64 (k:Nat))]) (λk=>[(8,.grow 4 1 ((zZ (l.map (·.1)) x).map bC))]) (λk=>k≤x∧vV (l.map (·.1)) x k=false) (λk=>x-k) 0 ?_ ?_ ?_ (λk hk=>?_))|skip
 all_goals(repeat'((try(conv=>whnf));first
  |refine call_i ?_ ?_|(with_reducible first|refine onB_t ?_|refine onB_f ?_|refine onB_d (λ_=>?_) (λ_=>?_))|refine OnB.mk (λ_=>?_) (λ_=>?_)|refine obl_i ?_ ?_|refine Drw.mk (by kernel_rfl) ?_|refine elem_map N0 ?_ ?_|refine elem_map false ?_ ?_))
 all_goals(try refine Pr.mk ?_)
 all_goals(try simp only[bK,fU]at *)
 all_goals first
  |omega|trivial|exact⟨oW _,rfl⟩|((with_reducible show SubB _ _);refine⟨?_,trivial⟩;show some (Bk.grow 4 1 _)=some (Bk.grow 4 1 _);rw[af9,List.map_replicate,bK])|(have hrl:=rpL (l:=l) (x:=x) (by omega);omega)|exact⟨I9 h4 (by omega),I9 h4 (by omega)⟩|((with_reducible show packA _=_);have hxx:x=l.length:=(by omega);subst hxx;rw[aa1];rfl)|(have hh:=aex (l:=l) (x:=x) (k:=k) (by omega) (by omega) hk.2 (by first|exact .inl (by assumption)|exact .inr (by assumption));(conv=>whnf);exact⟨k+1,⟨⟨rfl,rfl,rfl,rfl,rfl,rfl,aW (by omega),trivial⟩,⟨rfl,trivial⟩,⟨by omega,hh⟩,(by show x-(k+1)<x-k;omega)⟩⟩)|(have hh:=aeN (l:=l) (x:=x) (k:=k) (by omega) (by omega) (by assumption) (by assumption);(conv=>whnf);exact⟨x+1,⟨⟨rfl,rfl,rfl,aW (by omega),trivial⟩,⟨(by rw[hh,List.map_set];(first|done|rfl)),trivial⟩,by omega,(by show l.length-(x+1)<l.length-x;omega)⟩⟩)|(have hxx:k=x:=(by omega);subst hxx;have hh:=agU (l:=l) (x:=k) (by omega) hk.2;(conv=>whnf);exact⟨k+1,⟨⟨rfl,rfl,rfl,aW (by omega),trivial⟩,⟨(by rw[hh];(first|done|rfl)),trivial⟩,by omega,(by show l.length-(k+1)<l.length-k;omega)⟩⟩)⟩
set_option maxHeartbeats 16000000 in
instance alH(l:List (Ent × Nat)):DenI Tryz.prog 51 [.c (.sl 8 (l.map jV))] (l.length≤12∧∀x∈l,okV x.1) (.tup [.c (.sl 8 ((wo l).map jV)),.c (.sl 19 ((tu l).map yN))]):=⟨λ⟨h1,h4⟩=>by
 refine den_of (τ:=CZ) kC eF Tryz.func51 rfl (by kernel_rfl) (by kernel_rfl) (by kernel_rfl) ?_
 (conv=>whnf)
 refine Sw.Loop.ghost 4 100 86 8 ?_ rfl rfl rfl (by decide);refine Sw.Loop.ghost 5 101 47 19 ?_ rfl rfl rfl (by decide);refine Sw.Loop.inv (α:=Nat) (λx=>[(10,.c (.sl 8 (l.map jV))),(11,.int .i64 (l.length:Nat)),(12,.int .i64 (x:Nat)),(4,.gs 100 ((UW l x).map jV).length),(5,.gs 101 ((U2 l x).map yN).length)]) (λx=>[(100,.grow 86 8 ((UW l x).map jV)),(101,.grow 47 19 ((U2 l x).map yN))]) (λx=>x≤l.length) (λx=>l.length-x) 0 ?_ ?_ ?_ (λx hx=>?_)
 ·exact⟨rfl,by simp only[bK];rfl,rfl,rfl,rfl,trivial⟩
 ·exact⟨rfl,rfl,trivial⟩
 ·exact oW _
 obtain⟨hk1,hk2⟩:=Je l x
 by_cases hxl:x<l.length
 ·have g0:=I9 h4 hxl;obtain⟨g1,g2,g3⟩:=g0.2;rcases lV (l.getD x N0).1 with hE|⟨a,b,hE⟩
  ·haveI ie:DenI Tryz.prog 30 [.agg (cO (l.getD (Int.toNat ((x:Nat):Int)) N0).1)] ((l.getD x N0).1.pts.length≤1000000) (.tup [.c (.sl 8 []),.bool false]):=⟨λhp=>by have:=(nY (l.getD x N0).1).den hp;rw[hE]at this;simpa using this⟩
   all_goals(repeat'((try(conv=>whnf));first
    |refine call_i ?_ ?_|(with_reducible first|refine onB_t ?_|refine onB_f ?_|refine onB_d (λ_=>?_) (λ_=>?_))|refine OnB.mk (λ_=>?_) (λ_=>?_)|refine obl_i ?_ ?_|refine Drw.mk (by kernel_rfl) ?_|refine elem_map N0 ?_ ?_|refine Ends.mk ?_))
   all_goals(try refine Pr.mk ?_)
   all_goals(try simp only[bK,fU]at *)
   all_goals first
    |omega|((with_reducible show(_:Nat)≤_);simp only[gY,bK,iH,jf];omega)|exact⟨by assumption,g0⟩|(have hf:kL (l.getD x N0).1=5:=(by rw[Ri hE,if_pos ⟨by assumption,by assumption⟩]);obtain⟨h5,h6⟩:=Xr (l:=l) (x:=x) (k:=4) (by omega) hf;(conv=>whnf);exact⟨x+1,⟨⟨rfl,rfl,aW (by omega),(by(simp only[h5,h6,fO,gB,iD,gy,gY,bK,iH,jf]);(first|done|rfl)),(by(simp only[h5,h6,fO,gB,iD,gy,gY,bK,iH,jf]);(first|done|rfl)),trivial⟩,⟨(by(simp only[h5,h6,fO,gB,iD,gy]);(first|done|rfl)),(by(simp only[h5,h6,fO,gB,iD,gy]);(first|done|rfl)),trivial⟩,by omega,(by show l.length-(x+1)<l.length-x;omega)⟩⟩)|(have hf:kL (l.getD x N0).1=0:=(by rw[Ri hE,if_neg (by simp_all;done)]);obtain⟨h5,h6⟩:=acu (l:=l) (x:=x) (by omega) hf;(conv=>whnf);exact⟨x+1,⟨⟨rfl,rfl,aW (by omega),(by(simp only[h5,h6,fO,gB,iD,gy,gY,bK,iH,jf]);(first|done|rfl)),(by(simp only[h5,h6,fO,gB,iD,gy,gY,bK,iH,jf]);(first|done|rfl)),trivial⟩,⟨(by(simp only[h5,h6,fO,gB,iD,gy]);(first|done|rfl)),(by(simp only[h5,h6,fO,gB,iD,gy]);(first|done|rfl)),trivial⟩,by omega,(by show l.length-(x+1)<l.length-x;omega)⟩⟩)
  ·haveI ie:DenI Tryz.prog 30 [.agg (cO (l.getD (Int.toNat ((x:Nat):Int)) N0).1)] ((l.getD x N0).1.pts.length≤1000000) (.tup [.c (.sl 8 [vecC a,vecC b]),.bool true]):=⟨λhp=>by have:=(nY (l.getD x N0).1).den hp;rw[hE]at this;simpa using this⟩
   have ha:aV a:=g1 a (iR (by rw[hE];simp));have hb:aV b:=g1 b (iR (by rw[hE];simp))
   all_goals(repeat'((try(conv=>whnf));first
    |refine call_i ?_ ?_|(with_reducible first|refine onB_t ?_|refine onB_f ?_|refine onB_d (λ_=>?_) (λ_=>?_))|refine OnB.mk (λ_=>?_) (λ_=>?_)|refine obl_i ?_ ?_|refine Drw.mk (by kernel_rfl) ?_|(with_reducible first|refine elem_0 ?_|refine elem_1 ?_)|refine elem_map N0 ?_ ?_|refine Ends.mk ?_))
   all_goals(try refine Pr.mk ?_)
   all_goals(try simp only[bK,fU]at *)
   all_goals first
    |omega|((with_reducible show(_:Nat)≤_);simp only[gY,bK,iH,jf];omega)|exact⟨by assumption,g0⟩|exact⟨dh ha.1 (by decide),dh ha.2 (by decide),dh hb.1 (by decide),dh hb.2 (by decide)⟩|(have hf:=Rn (a:=a) (b:=b) hE (by assumption);obtain⟨h5,h6⟩:=Xr (l:=l) (x:=x) (k:=1) (by omega) hf;(conv=>whnf);exact⟨x+1,⟨⟨rfl,rfl,aW (by omega),(by(simp only[h5,h6,fO,gB,iD,gy,gY,bK,iH,jf]);(first|done|rfl)),(by(simp only[h5,h6,fO,gB,iD,gy,gY,bK,iH,jf]);(first|done|rfl)),trivial⟩,⟨(by(simp only[h5,h6,fO,gB,iD,gy]);(first|done|rfl)),(by(simp only[h5,h6,fO,gB,iD,gy]);(first|done|rfl)),trivial⟩,by omega,(by show l.length-(x+1)<l.length-x;omega)⟩⟩)|(have hf:kL (l.getD x N0).1=5:=(by rw[I5 (a:=a) (b:=b) hE (by assumption),if_pos ⟨by assumption,by assumption⟩]);obtain⟨h5,h6⟩:=Xr (l:=l) (x:=x) (k:=4) (by omega) hf;(conv=>whnf);exact⟨x+1,⟨⟨rfl,rfl,aW (by omega),(by(simp only[h5,h6,fO,gB,iD,gy,gY,bK,iH,jf]);(first|done|rfl)),(by(simp only[h5,h6,fO,gB,iD,gy,gY,bK,iH,jf]);(first|done|rfl)),trivial⟩,⟨(by(simp only[h5,h6,fO,gB,iD,gy]);(first|done|rfl)),(by(simp only[h5,h6,fO,gB,iD,gy]);(first|done|rfl)),trivial⟩,by omega,(by show l.length-(x+1)<l.length-x;omega)⟩⟩)|(have hf:kL (l.getD x N0).1=0:=(by rw[I5 (a:=a) (b:=b) hE (by assumption),if_neg (by simp_all;done)]);obtain⟨h5,h6⟩:=acu (l:=l) (x:=x) (by omega) hf;(conv=>whnf);exact⟨x+1,⟨⟨rfl,rfl,aW (by omega),(by(simp only[h5,h6,fO,gB,iD,gy,gY,bK,iH,jf]);(first|done|rfl)),(by(simp only[h5,h6,fO,gB,iD,gy,gY,bK,iH,jf]);(first|done|rfl)),trivial⟩,⟨(by(simp only[h5,h6,fO,gB,iD,gy]);(first|done|rfl)),(by(simp only[h5,h6,fO,gB,iD,gy]);(first|done|rfl)),trivial⟩,by omega,(by show l.length-(x+1)<l.length-x;omega)⟩⟩)
 ·have hxx:x=l.length:=(by omega)
  subst hxx
  all_goals(repeat'((try(conv=>whnf));first
   |refine call_i ?_ ?_|(with_reducible first|refine onB_t ?_|refine onB_f ?_|refine onB_d (λ_=>?_) (λ_=>?_))|refine OnB.mk (λ_=>?_) (λ_=>?_)|refine obl_i ?_ ?_|refine Drw.mk (by kernel_rfl) ?_|refine elem_map N0 ?_ ?_|refine Ends.mk ?_))
  all_goals(try refine Pr.mk ?_)
  all_goals first
   |(exfalso;omega)|((with_reducible show(_:Nat)=_);rfl)|((with_reducible show packA _=_);rw[Rz,RF];rfl)⟩
instance amu(sq:Rat)(sp:Spots)(n:Nat)(s:ByteArray)(v:P2):DenI Tryz.prog 92 [.gh (jgho Tryz.prog 9 45 8 (jst sq sp n)),.c (.v (.string s)),.agg (vecC v)] (s.size≤1000∧rz v.1≤12∧rz v.2≤12∧rz sq≤1000∧n≤1000000∧(∀p∈spotsAt sp s,rz p.1≤12∧rz p.2≤12)∧(spotsAt sp s).length≤1000000)
 (.tup [.gh (jgho Tryz.prog 9 45 8 (jst sq (joinP sq sp s v).1 (n+1))),.agg (vecC (joinP sq sp s v).2)]):=⟨λ⟨h1,h2,h3,h4,h5,h6,h7⟩=>agW sq sp n s v h1 h2 h3 h4 h5 h6 h7⟩
instance afQ(e:Ent)(a b:P2):DenI Tryz.prog 94 [.agg (cO e),.c (.sl 8 ([cellsOf (.agg (vecC a))]++[cellsOf (.agg (vecC b))]))] (e.pts.length≤1000000∧2=(aS e).length) (.agg (cO (iI e [a,b]))):=⟨λhp=>(inferInstance:DenI Tryz.prog 94 [.agg (cO e),.c (.sl 8 ([a,b].map vecC))] (e.pts.length≤1000000∧[a,b].length=(aS e).length) (.agg (cO (iI e [a,b])))).den hp⟩
theorem fZ{l:List Ent}{e:Ent}{x:Nat}(h:l.length=x):(l++[e]).zipIdx=l.zipIdx++[(e,x)]:=by subst h;simp[List.zipIdx_append]
set_option maxHeartbeats 16000000 in
theorem ae0(tol:Rat)(es:List Ent)(sL:Nat)(ls:List (List Cell))(ht:rz tol≤12)(hle:es.length≤12)(hes:∀e∈es,(∀p∈e.pts,aV p)∧e.layer.size≤1000∧e.pts.length≤3):
 Den Tryz.prog 50 [.agg [.sl sL ls,.sl 7 (es.map cO)],R tol] (.tup [.c (.sl 8 ((dU (tol*tol) 0 [] es).es.zipIdx.map jV)),.own 47 19 ((dU (tol*tol) 0 [] es).cs.map yN)]):=by
 have i_t:RzB tol 12:=⟨ht⟩
 have hsq:rz (tol*tol)≤1000:=jh (by omega);have hj:=QX (q:=aV) (sq:=tol*tol) (es:=es) (λe he=>(hes e he).1);refine Den.of ⟨by kernel_rfl,λw X vs ho hX hl hR=>?_⟩ rfl
 haveI:WOk Tryz.prog w:=⟨ho⟩
 refine enter Tryz.func50 rfl rfl (by rw[hl];rfl) λa hF=>?_
 have hc:=args_conc (N:=76) hX hl hR hF;refine c_seq (awp_ok (τ:=Uj) uO eF _ (QA:=λz e b=>z=.normal∧SubE [(2,.ptr 2 0),(3,.ptr 3 0),(4,.c (.v (.slice none 0 0))),(5,.c (.v (.slice none 0 0)))] e∧SubB [(2,.var [.sl sL ls,.sl 7 (es.map cO)]),(3,.var (ratC tol))] b) (by kernel_rfl) ?_ hc ?_)
 case refine_1 =>
  all_goals(repeat'((try(conv=>whnf));first
   |refine call_0 ?_|refine call_i ?_ ?_|refine call_c ?_ (λ_=>?_) (λ_=>?_)|(with_reducible first|refine onB_t ?_|refine onB_f ?_|refine onB_d (λ_=>?_) (λ_=>?_)|refine onB_n (λ_=>?_) (λ_=>?_))|refine OnB.mk (λ_=>?_) (λ_=>?_)|refine obl_i ?_ ?_|refine Drw.mk (by kernel_rfl) ?_|refine mks_i ?_ ?_|refine slp_i ?_ ?_|(with_reducible first|refine elem_u ?_ ?_|refine elem_0 ?_|refine elem_1 ?_)|refine Ends.mk ?_))
  all_goals(try refine Pr.mk ?_)
  exact⟨rfl,⟨rfl,rfl,rfl,rfl,trivial⟩,⟨rfl,rfl,trivial⟩⟩
 clear hc;rintro x e b a w1 ⟨rfl,he,hb⟩ hc;replace hc:=hc.sub he hb;clear he hb;refine x_tn ?_;obtain⟨S,M,hs⟩:=hc;refine c_seq (c_reg ?_);refine wp1 rfl ex_makeMap ?_;have hB1:Below w1.heap.size w1 (w1.alloc (.map #[] 0)):=below_alloc w1 _;have hs2:=(hs.below hB1).putV (t:=17) (u:=.map (some w1.heap.size)) (v:=.any) ⟨by decide,rfl⟩ .any;have hm2:(w1.alloc (.map #[] 0)).heap[w1.heap.size]?=some (.map #[] 0):=heap_new w1 _;generalize w1.alloc (.map #[] 0)=w2 at hB1 hs2 hm2 ⊢;generalize hg0:w1.heap.size=g0 at hs2 hm2 ⊢;obtain⟨g3,T3,c3,v3,hh3,hr3⟩:=hs2.var (t:=3) (i:=3) rfl rfl;have hl3:c3.size=4:=by have:=hr3.len;simpa using this
 have hrow:isRow Tryz.prog 30 4=true:=by kernel_rfl
 have hFm:Frm 76 _ [(3,.pointer (some ⟨g3,0,none⟩)),(17,.map (some g0))]:=(hs2.frm.cons (getD_put_same _ hs.sz (by decide))).cons v3;refine wp1 rfl (uI hrow (hFm.ev rfl) hh3 (by simp[hl3])) ?_;have hs3:=hs2.putV (t:=18) (u:=.agg c3) (v:=.any) ⟨by decide,rfl⟩ .any;replace hFm:=hFm.put (d:=18) (by decide) (.agg c3);refine wp1 rfl (uI hrow (hFm.ev rfl) hh3 (by simp[hl3])) ?_;have hs4:=hs3.putV (t:=19) (u:=.agg c3) (v:=.any) ⟨by decide,rfl⟩ .any;replace hFm:=hFm.put (d:=19) (by decide) (.agg c3)
 have hd3:RepD w2 (bl S++X) (.agg c3) (R tol):=by
  obtain⟨c3⟩:=c3;exact .agg hr3
 have hden:=((inferInstance:DenI Tryz.prog 91 [R tol,R tol] _ (R (tol*tol))).den (by exact⟨dh ht (by decide),dh ht (by decide)⟩)).old rfl;have hok2:Wld.ok Tryz.prog w2:=Wld.keep (Wld.keep ho hs.ms.st.below) hB1
 have hcall:=hden.2 w2 (bl S++X) [.agg c3,.agg c3] hok2 hs4.bnd rfl (λi u v hu hv=>by
  match i,hu,hv with
  |0,hu,hv=>cases hu;cases hv;exact hd3
  |1,hu,hv=>cases hu;cases hv;exact hd3)
 refine wp1c rfl (Rh (by kernel_rfl) (map2 (hFm.ev rfl) (hFm.ev rfl)) rfl) hcall ?_;rintro u5 w3 ⟨hR5,hB3⟩;obtain⟨us5,rfl,hr5⟩:=hR5.agg;have hl5:us5.length=4:=by have:=hr5.len;simpa using this
 have hs5:=(hs4.below hB3).putV (t:=20) (u:=.agg us5.toArray) (v:=.any) ⟨by decide,rfl⟩ .any;replace hFm:=hFm.put (d:=20) (by decide) (.agg us5.toArray);have hm3:w3.heap[g0]?=some (.map #[] 0):=(hB3.block _ (lt_of_heap hm2)).trans hm2;refine wp1 rfl (ex_build15 (hFm.ev rfl) rfl (hFm.ev rfl) (run_build15 (tab_at kC (t:=133) rfl) rfl hl5)) ?_;have hs6:=hs5.putV (t:=21) (u:=.agg (#[.map (some g0)]++us5.toArray)) (v:=.any) ⟨by decide,rfl⟩ .any;replace hFm:=hFm.put (d:=21) (by decide) (.agg (#[.map (some g0)]++us5.toArray));refine wp1 rfl (ex_box (hFm.ev rfl)) ?_;have hc:=Sta.ghost0 (i:=22) (T:=133) (us:=.map (some g0)::us5) (G:=jgho Tryz.prog 9 45 8 (jst (tol*tol) [] 0)) (g0:=g0) hs hs6 (by omega) hm3 rfl rfl rfl ⟨by decide,rfl⟩ (jrep0 hr5);rw[show(Value.map (some g0)::us5).toArray=(Value.agg (#[.map (some g0)]++us5.toArray)).cells by simp[Value.cells]]at hc;refine aops_ok uO (k:=λe b=>SubE [(6,.ptr 22 0),(2,.ptr 2 0)] e∧SubB [(22,.gh (jgho Tryz.prog 9 45 8 (jst (tol*tol) [] 0))),(2,.var [.sl sL ls,.sl 7 (es.map cO)])] b) ?_ (by kernel_rfl) ?_ hc
 case refine_2 =>
  all_goals(repeat'((try(conv=>whnf));first
   |refine call_0 ?_|refine call_i ?_ ?_|refine call_c ?_ (λ_=>?_) (λ_=>?_)|(with_reducible first|refine onB_t ?_|refine onB_f ?_|refine onB_d (λ_=>?_) (λ_=>?_)|refine onB_n (λ_=>?_) (λ_=>?_))|refine OnB.mk (λ_=>?_) (λ_=>?_)|refine obl_i ?_ ?_|refine Drw.mk (by kernel_rfl) ?_|refine mks_i ?_ ?_|refine slp_i ?_ ?_|(with_reducible first|refine elem_u ?_ ?_|refine elem_0 ?_|refine elem_1 ?_)|refine Ends.mk ?_))
  all_goals(try refine Pr.mk ?_)
  exact⟨⟨rfl,rfl,trivial⟩,⟨rfl,rfl,trivial⟩⟩
 clear hc hFm hs6 hm3 hs5 hl5 hR5 hr5 hB3 hcall hok2 hden hd3 hs4 hs3 hrow hl3 hr3 hh3 v3 hm2 hs2 hg0 hB1 hs hF hR hl hX;rintro e b a w4 ⟨he,hb⟩ hc;replace hc:=hc.sub he hb;clear he hb;refine x_tn ?_;refine awp_ok (τ:=Uj) uO eF _ (QA:=endO Uj _ [none,some (47,19)] (.tup [.c (.sl 8 ((dU (tol*tol) 0 [] es).es.zipIdx.map jV)),.own 47 19 ((dU (tol*tol) 0 [] es).cs.map yN)])) (by kernel_rfl) ?_ hc (λx e b a w' hx hc'=>endO_ok uO hx hc');clear hc ho
 (conv=>whnf);refine Sw.Loop.ghost 7 100 86 8 ?_ rfl rfl rfl (by decide)
 refine Sw.Loop.ghost 8 101 47 19 ?_ rfl rfl rfl (by decide);refine Sw.Loop.inv (α:=Nat) (λx=>[(6,.ptr 22 0),(24,.c (.sl 7 (es.map cO))),(25,.int .i64 (es.length:Nat)),(26,.int .i64 (x:Nat)),(7,.gs 100 ((jA (tol*tol) es x).es.zipIdx.map jV).length),(8,.gs 101 ((jA (tol*tol) es x).cs.map yN).length)]) (λx=>[(22,.gh (jgho Tryz.prog 9 45 8 (jst (tol*tol) (jA (tol*tol) es x).sp (nE es x)))),(100,.grow 86 8 ((jA (tol*tol) es x).es.zipIdx.map jV)),(101,.grow 47 19 ((jA (tol*tol) es x).cs.map yN))]) (λx=>x≤es.length) (λx=>es.length-x) 0 ?_ ?_ ?_ (λx hx=>?_)
 ·exact⟨rfl,rfl,by simp only[bK];rfl,rfl,rfl,rfl,trivial⟩
 ·exact⟨rfl,rfl,rfl,trivial⟩
 ·exact oW _
 obtain⟨j1,j2,j3,j4,j5⟩:=hj x hx;obtain⟨g1,g2,g3'⟩:=aaj hes x;have hn2:=RV es x;rcases lV (es.getD x E0)with hE|⟨a,b,hE⟩
 ·haveI ie:DenI Tryz.prog 30 [.agg (cO (es.getD (Int.toNat ((x:Nat):Int)) E0))] ((es.getD x E0).pts.length≤1000000) (.tup [.c (.sl 8 []),.bool false]):=⟨λhp=>by have:=(nY (es.getD x E0)).den hp;rw[hE]at this;simpa using this⟩
  all_goals(repeat'((try(conv=>whnf));first
   |refine call_0 ?_|refine call_i ?_ ?_|refine call_c ?_ (λ_=>?_) (λ_=>?_)|(with_reducible first|refine onB_t ?_|refine onB_f ?_|refine onB_d (λ_=>?_) (λ_=>?_)|refine onB_n (λ_=>?_) (λ_=>?_))|refine OnB.mk (λ_=>?_) (λ_=>?_)|refine obl_i ?_ ?_|refine Drw.mk (by kernel_rfl) ?_|refine mks_i ?_ ?_|refine slp_i ?_ ?_|(with_reducible first|refine elem_u ?_ ?_|refine elem_0 ?_|refine elem_1 ?_)|refine elem_map E0 ?_ ?_|refine Ends.mk ?_))
  all_goals(try refine Pr.mk ?_)
  all_goals first
   |((conv=>whnf);refine Sw.Loop.unroll ?_)|skip
  all_goals(repeat'((try rw[Ro]);(try rw[MQ]);(try(conv=>whnf));first
   |refine call_0 ?_|refine call_i ?_ ?_|(with_reducible first|refine onB_t ?_|refine onB_f ?_)|refine RD (by simp only[iH,jf];decide) ?_|refine CQ (by simp only[iH,jf];decide) ?_|refine RD (by decide) ?_|refine CQ (by decide) ?_|(with_reducible first|refine onB_d (λ_=>?_) (λ_=>?_)|refine onB_n (λ_=>?_) (λ_=>?_))|refine OnB.mk (λ_=>?_) (λ_=>?_)|refine obl_i ?_ ?_|refine Drw.mk (by kernel_rfl) ?_|refine mks_i ?_ ?_|refine slp_i ?_ ?_|(with_reducible first|refine elem_u ?_ ?_|refine elem_0 ?_|refine elem_1 ?_)|refine Ends.mk ?_))
  all_goals(try refine Pr.mk ?_)
  all_goals(try simp only[bK,fU]at *)
  all_goals first
   |((with_reducible show(_:Nat)=_);rfl)|omega|((with_reducible show(_:Nat)≤_);simp only[gY,bK,SL,iH,jf];omega)|((with_reducible show packA _=_);have hxx:x=es.length:=(by omega);subst hxx;rw[IC];rfl)|(exfalso;rename_i q;simp at q;done)|(obtain⟨hA,hN⟩:=aey (tol*tol) es (x:=x) (by omega) hE;(conv=>whnf);exact⟨x+1,⟨⟨rfl,rfl,rfl,aW (by omega),(by(simp only[hA,hN,fZ j5,fO,gB,iD,gy,gY,bK,iH,jf]);(first|done|rfl)),(by(simp only[hA,hN,fZ j5,fO,gB,iD,gy,gY,bK,iH,jf]);(first|done|rfl)),trivial⟩,⟨(by(simp only[hA,hN,fZ j5,fO,gB,iD,gy]);(first|done|rfl)),(by(simp only[hA,hN,fZ j5,fO,gB,iD,gy]);(first|done|rfl)),(by(simp only[hA,hN,fZ j5,fO,gB,iD,gy]);(first|done|rfl)),trivial⟩,by omega,(by show es.length-(x+1)<es.length-x;omega)⟩⟩)|skip
 ·haveI ie:DenI Tryz.prog 30 [.agg (cO (es.getD (Int.toNat ((x:Nat):Int)) E0))] ((es.getD x E0).pts.length≤1000000) (.tup [.c (.sl 8 [vecC a,vecC b]),.bool true]):=⟨λhp=>by have:=(nY (es.getD x E0)).den hp;rw[hE]at this;simpa using this⟩
  have ha:aV a:=g1 a (iR (by rw[hE];simp));have hb:aV b:=g1 b (iR (by rw[hE];simp));have f1:=yR (q:=aV) (sq:=tol*tol) (s:=(es.getD x E0).layer) j1 ha;have f2:=yR (q:=aV) (sq:=tol*tol) (s:=(es.getD x E0).layer) f1.1 hb
  all_goals(repeat'((try(conv=>whnf));first
   |refine call_0 ?_|refine call_i ?_ ?_|refine call_c ?_ (λ_=>?_) (λ_=>?_)|(with_reducible first|refine onB_t ?_|refine onB_f ?_|refine onB_d (λ_=>?_) (λ_=>?_)|refine onB_n (λ_=>?_) (λ_=>?_))|refine OnB.mk (λ_=>?_) (λ_=>?_)|refine obl_i ?_ ?_|refine Drw.mk (by kernel_rfl) ?_|refine mks_i ?_ ?_|refine slp_i ?_ ?_|(with_reducible first|refine elem_u ?_ ?_|refine elem_0 ?_|refine elem_1 ?_)|refine elem_map E0 ?_ ?_|refine Ends.mk ?_))
  all_goals(try refine Pr.mk ?_)
  all_goals first
   |((conv=>whnf);refine Sw.Loop.unroll ?_)|skip
  all_goals(repeat'((try rw[Ro]);(try rw[MQ]);(try(conv=>whnf));first
   |refine call_0 ?_|refine call_i ?_ ?_|(with_reducible first|refine onB_t ?_|refine onB_f ?_)|refine RD (by simp only[iH,jf];decide) ?_|refine CQ (by simp only[iH,jf];decide) ?_|refine RD (by decide) ?_|refine CQ (by decide) ?_|(with_reducible first|refine onB_d (λ_=>?_) (λ_=>?_)|refine onB_n (λ_=>?_) (λ_=>?_))|refine OnB.mk (λ_=>?_) (λ_=>?_)|refine obl_i ?_ ?_|refine Drw.mk (by kernel_rfl) ?_|refine mks_i ?_ ?_|refine slp_i ?_ ?_|(with_reducible first|refine elem_u ?_ ?_|refine elem_0 ?_|refine elem_1 ?_)|refine Ends.mk ?_))
  all_goals(try refine Pr.mk ?_)
  all_goals first
   |((conv=>whnf);refine Sw.Loop.unroll ?_)|skip
  all_goals(repeat'((try rw[Ro]);(try rw[MQ]);(try(conv=>whnf));first
   |refine call_0 ?_|refine call_i ?_ ?_|(with_reducible first|refine onB_t ?_|refine onB_f ?_)|refine RD (by simp only[iH,jf];decide) ?_|refine CQ (by simp only[iH,jf];decide) ?_|refine RD (by decide) ?_|refine CQ (by decide) ?_|(with_reducible first|refine onB_d (λ_=>?_) (λ_=>?_)|refine onB_n (λ_=>?_) (λ_=>?_))|refine OnB.mk (λ_=>?_) (λ_=>?_)|refine obl_i ?_ ?_|refine Drw.mk (by kernel_rfl) ?_|refine mks_i ?_ ?_|refine slp_i ?_ ?_|(with_reducible first|refine elem_u ?_ ?_|refine elem_0 ?_|refine elem_1 ?_)|refine Ends.mk ?_))
  all_goals(try refine Pr.mk ?_)
  all_goals first
   |((conv=>whnf);refine Sw.Loop.unroll ?_)|skip
  all_goals(repeat'((try rw[Ro]);(try rw[MQ]);(try(conv=>whnf));first
   |refine call_0 ?_|refine call_i ?_ ?_|(with_reducible first|refine onB_t ?_|refine onB_f ?_)|refine RD (by simp only[iH,jf];decide) ?_|refine CQ (by simp only[iH,jf];decide) ?_|refine RD (by decide) ?_|refine CQ (by decide) ?_|(with_reducible first|refine onB_d (λ_=>?_) (λ_=>?_)|refine onB_n (λ_=>?_) (λ_=>?_))|refine OnB.mk (λ_=>?_) (λ_=>?_)|refine obl_i ?_ ?_|refine Drw.mk (by kernel_rfl) ?_|refine mks_i ?_ ?_|refine slp_i ?_ ?_|(with_reducible first|refine elem_u ?_ ?_|refine elem_0 ?_|refine elem_1 ?_)|refine Ends.mk ?_))
  all_goals(try refine Pr.mk ?_)
  all_goals(try simp only[bK,fU]at *)
  all_goals first
   |((with_reducible show(_:Nat)=_);rfl)|omega|((with_reducible show(_:Nat)≤_);simp only[gY,bK,SL,iH,jf];omega)|((with_reducible show packA _=_);have hxx:x=es.length:=(by omega);subst hxx;rw[IC];rfl)|((with_reducible show _∧_);first|exact⟨g2,ha.1,ha.2,hsq,by omega,Vw j1,by have:=Am (jA (tol*tol) es x).sp (es.getD x E0).layer;omega⟩|exact⟨g2,hb.1,hb.2,hsq,by omega,Vw f1.1,by have:=Am (joinP (tol*tol) (jA (tol*tol) es x).sp (es.getD x E0).layer a).1 (es.getD x E0).layer;have:=f1.2.2;omega⟩|exact⟨dh ha.1 (by decide),dh ha.2 (by decide),dh f1.2.1.1 (by decide),dh f1.2.1.2 (by decide)⟩|exact⟨dh hb.1 (by decide),dh hb.2 (by decide),dh f2.2.1.1 (by decide),dh f2.2.1.2 (by decide)⟩|exact⟨by omega,by rw[hE];rfl⟩)|(exfalso;rename_i q;simp at q;done)|(obtain⟨hA,hN⟩:=aev (tol*tol) es (x:=x) (by omega) hE;first|(have q1:=abY (i:=x) (k:=0) (a:=a) (w:=(joinP (tol*tol) (jA (tol*tol) es x).sp (es.getD x E0).layer a).2) (by assumption);have q2:=abY (i:=x) (k:=1) (a:=b) (w:=(joinP (tol*tol) (joinP (tol*tol) (jA (tol*tol) es x).sp (es.getD x E0).layer a).1 (es.getD x E0).layer b).2) (by assumption);(conv=>whnf);exact⟨x+1,⟨⟨rfl,rfl,rfl,aW (by omega),(by(simp only[hA,hN,q1,q2,fZ j5,sS,wZ,o8,fO,gB,iD,gy,gY,bK,iH,jf]);(first|done|rfl)),(by(simp only[hA,hN,q1,q2,fZ j5,sS,wZ,o8,fO,gB,iD,gy,gY,bK,iH,jf]);(first|done|rfl)),trivial⟩,⟨(by(simp only[hA,hN,q1,q2,fZ j5,sS,wZ,o8,fO,gB,iD,gy]);(first|done|rfl)),(by(simp only[hA,hN,q1,q2,fZ j5,sS,wZ,o8,fO,gB,iD,gy]);(first|done|rfl)),(by(simp only[hA,hN,q1,q2,fZ j5,sS,wZ,o8,fO,gB,iD,gy]);(first|done|rfl)),trivial⟩,by omega,(by show es.length-(x+1)<es.length-x;omega)⟩⟩)|(have q1:=abY (i:=x) (k:=0) (a:=a) (w:=(joinP (tol*tol) (jA (tol*tol) es x).sp (es.getD x E0).layer a).2) (by assumption);have q2:=aag (i:=x) (k:=1) (a:=b) (w:=(joinP (tol*tol) (joinP (tol*tol) (jA (tol*tol) es x).sp (es.getD x E0).layer a).1 (es.getD x E0).layer b).2) (by assumption);(conv=>whnf);exact⟨x+1,⟨⟨rfl,rfl,rfl,aW (by omega),(by(simp only[hA,hN,q1,q2,fZ j5,sS,wZ,o8,fO,gB,iD,gy,gY,bK,iH,jf]);(first|done|rfl)),(by(simp only[hA,hN,q1,q2,fZ j5,sS,wZ,o8,fO,gB,iD,gy,gY,bK,iH,jf]);(first|done|rfl)),trivial⟩,⟨(by(simp only[hA,hN,q1,q2,fZ j5,sS,wZ,o8,fO,gB,iD,gy]);(first|done|rfl)),(by(simp only[hA,hN,q1,q2,fZ j5,sS,wZ,o8,fO,gB,iD,gy]);(first|done|rfl)),(by(simp only[hA,hN,q1,q2,fZ j5,sS,wZ,o8,fO,gB,iD,gy]);(first|done|rfl)),trivial⟩,by omega,(by show es.length-(x+1)<es.length-x;omega)⟩⟩)|(have q1:=aag (i:=x) (k:=0) (a:=a) (w:=(joinP (tol*tol) (jA (tol*tol) es x).sp (es.getD x E0).layer a).2) (by assumption);have q2:=abY (i:=x) (k:=1) (a:=b) (w:=(joinP (tol*tol) (joinP (tol*tol) (jA (tol*tol) es x).sp (es.getD x E0).layer a).1 (es.getD x E0).layer b).2) (by assumption);(conv=>whnf);exact⟨x+1,⟨⟨rfl,rfl,rfl,aW (by omega),(by(simp only[hA,hN,q1,q2,fZ j5,sS,wZ,o8,fO,gB,iD,gy,gY,bK,iH,jf]);(first|done|rfl)),(by(simp only[hA,hN,q1,q2,fZ j5,sS,wZ,o8,fO,gB,iD,gy,gY,bK,iH,jf]);(first|done|rfl)),trivial⟩,⟨(by(simp only[hA,hN,q1,q2,fZ j5,sS,wZ,o8,fO,gB,iD,gy]);(first|done|rfl)),(by(simp only[hA,hN,q1,q2,fZ j5,sS,wZ,o8,fO,gB,iD,gy]);(first|done|rfl)),(by(simp only[hA,hN,q1,q2,fZ j5,sS,wZ,o8,fO,gB,iD,gy]);(first|done|rfl)),trivial⟩,by omega,(by show es.length-(x+1)<es.length-x;omega)⟩⟩)|(have q1:=aag (i:=x) (k:=0) (a:=a) (w:=(joinP (tol*tol) (jA (tol*tol) es x).sp (es.getD x E0).layer a).2) (by assumption);have q2:=aag (i:=x) (k:=1) (a:=b) (w:=(joinP (tol*tol) (joinP (tol*tol) (jA (tol*tol) es x).sp (es.getD x E0).layer a).1 (es.getD x E0).layer b).2) (by assumption);(conv=>whnf);exact⟨x+1,⟨⟨rfl,rfl,rfl,aW (by omega),(by(simp only[hA,hN,q1,q2,fZ j5,sS,wZ,o8,fO,gB,iD,gy,gY,bK,iH,jf]);(first|done|rfl)),(by(simp only[hA,hN,q1,q2,fZ j5,sS,wZ,o8,fO,gB,iD,gy,gY,bK,iH,jf]);(first|done|rfl)),trivial⟩,⟨(by(simp only[hA,hN,q1,q2,fZ j5,sS,wZ,o8,fO,gB,iD,gy]);(first|done|rfl)),(by(simp only[hA,hN,q1,q2,fZ j5,sS,wZ,o8,fO,gB,iD,gy]);(first|done|rfl)),(by(simp only[hA,hN,q1,q2,fZ j5,sS,wZ,o8,fO,gB,iD,gy]);(first|done|rfl)),trivial⟩,by omega,(by show es.length-(x+1)<es.length-x;omega)⟩⟩))|skip
instance ahS(tol:Rat)(es:List Ent)(sL:Nat)(ls:List (List Cell)):DenI Tryz.prog 50 [.agg [.sl sL ls,.sl 7 (es.map cO)],R tol] (rz tol≤12∧es.length≤12∧∀e∈es,Zq e) (.tup [.c (.sl 8 ((dU (tol*tol) 0 [] es).es.zipIdx.map jV)),.own 47 19 ((dU (tol*tol) 0 [] es).cs.map yN)]):=⟨λ⟨h1,h2,h3⟩=>ae0 tol es sL ls h1 h2 h3⟩
def ajz:List Cell:=[.v (.string ⟨#[]⟩),.v (.int .i64 0),.v (.string ⟨#[108,105,110,101]⟩),.v (.int .i64 2),.v (.string ⟨#[97,114,99]⟩),.v (.int .i64 3),.v (.string ⟨#[99,105,114,99,108,101]⟩),.v (.int .i64 1)]
def afO:List Value:=[.string ⟨#[]⟩,.int .i64 0,.string ⟨#[108,105,110,101]⟩,.int .i64 2,.string ⟨#[97,114,99]⟩,.int .i64 3,.string ⟨#[99,105,114,99,108,101]⟩,.int .i64 1]
def X7(w:World):Prop:=∀(j:Nat) u,afO[j]?=some u→w.cell? ((⟨0,0,none⟩:Addr).add j)=some u
theorem WV{w w':World}(h:X7 w)(hb:Below w.heap.size w w'):X7 w':=λj u hu=>by
 have h1:=h j u hu;have hb0:((⟨0,0,none⟩:Addr).add j).block=0:=by unfold Addr.add;split<;>rfl
 have hg:((⟨0,0,none⟩:Addr).add j).block<w.heap.size:=by
  rcases EW ((⟨0,0,none⟩:Addr).add j).block w.heap.size with h'|h'
  ·exact h'
  ·unfold World.cell? at h1;rw[Array.getElem?_eq_none h']at h1;cases h1
 exact(hb.cell hg).trans h1
instance(priority:=3000) Ub:Wld Tryz.prog:=⟨λw=>Lib.TabIs Tryz.prog w "internal/strconv.uint64pow10" .u64 Lib.pow10Tab∧X7 w,λh hb=>⟨tab_keep h.1 hb,WV h.2 hb⟩,[(0,afO)],λh g us hm=>by
 simp only[AL,uh]at hm;obtain⟨rfl,rfl⟩:=hm
 exact h.2⟩
instance Qj{f:FuncId}{xs:List AV}{pre:Prop}{r:AV}[h : @DenI Tryz.prog Dl f xs pre r]:@DenI Tryz.prog Ub f xs pre r:=⟨λhp=>den_lift Dl Ub (λ_ h=>h.1) (h.den hp)⟩
instance ain{f:FuncId}{xs:List AV}{pre c:Prop}{r s:AV}[h : @DenC Tryz.prog Dl f xs pre c r s]:@DenC Tryz.prog Ub f xs pre c r s:=⟨λhp=>⟨λhc=>den_lift Dl Ub (λ_ h=>h.1) ((h.den hp).1 hc),λhc=>den_lift Dl Ub (λ_ h=>h.1) ((h.den hp).2 hc)⟩⟩
def ahH:Tab:=(1000000000,.glob 0 ajz)::tab
theorem ah5 : @tabOk Tryz.prog Ub ahH=true:=by kernel_rfl
theorem acs{f:FuncId}{fn:Func}{c:Code}{xs:List AV}{r:AV}(hf:Tryz.prog.funcs[f]?=some fn)(hb:fn.body=some c)(h:awp (Den Tryz.prog) ahH c (endA ahH fn r) (argE 0 xs) [])(a:hasBody Tryz.prog f=true:=by kernel_rfl)(t:textOk fn.ntmps c=true:=by kernel_rfl)(l:Nat.ble xs.length fn.ntmps=true:=by kernel_rfl)(n:noTup xs=true:=by rfl):Den Tryz.prog f xs r:=den_of ah5 eF hf hb a t l h n
instance ajI(n:Nat):DenI Tryz.prog 184 [.int .i64 (n:Nat)] (n≤31) (R ((p10 n:Int):Rat)):=⟨λhp=>by
 refine acs Tryz.func184 rfl ?_
 all_goals(repeat'((try(conv=>whnf));first
  |refine call_i ?_ ?_))
 all_goals(try refine Pr.mk ?_)
 all_goals first
  |((conv=>whnf);refine Sw.Loop.inv (α:=Nat) (λx=>[(0,.int .i64 (n:Nat)),(2,.ptr 2 0),(3,.ptr 3 0),(4,.int .i64 (x:Nat))]) (λx=>[(2,.var [.v (.bool false),.sl 1 [],.v (.bool false),.sl 1 []]),(3,.var (ratC ((p10 x:Int):Rat)))]) (λx=>x≤n∧True) (λx=>n-x) 0 ?_ ?_ ?_ (λx hx=>?_))|skip
 all_goals(repeat'((try(conv=>whnf));first
  |refine call_i ?_ ?_|(with_reducible refine onB_d (λ_=>?_) (λ_=>?_))|refine Drw.mk (by kernel_rfl) ?_|refine Ends.mk ?_))
 all_goals(try refine Pr.mk ?_)
 all_goals first|(show SubE _ _;repeat'(first|exact trivial|refine And.intro ?_ ?_))|(show SubB _ _;repeat'(first|exact trivial|refine And.intro ?_ ?_))|skip
 all_goals(try rfl)
 all_goals first
  |omega|exact⟨oW _,trivial⟩|(have z1:=Ic (n:=x) (by omega);exact⟨by omega,dh (NV 10 (by decide) (by decide)) (by decide)⟩)|((with_reducible show packA _=_);have hxx:x=n:=(by omega);subst hxx;rfl)|((conv=>whnf);exact⟨x+1,⟨⟨rfl,rfl,rfl,aW (by omega),trivial⟩,⟨rfl,(by show some (Bk.var (ratC (((p10 x:Int):Rat)*((10:Int):Rat))))=some (Bk.var (ratC ((p10 (x+1):Int):Rat)));rw[ab5]),trivial⟩,⟨by omega,trivial⟩,by show n-(x+1)<n-x;omega⟩⟩)⟩
instance akq(n:Int)(k:Nat):DenI Tryz.prog 185 [Z n,.int .i64 (k:Nat)] (sz n≤50∧k≤30) (.str (Tt n k)):=⟨λhp=>by
 have z0:=GU hp.1;have z1:=Gm n;have z2:=Ot hp.1 hp.2;have z3:=Qr n;have z4:=ael n;have hsz:sz n≤100000:=dh hp.1 (by decide)
 by_cases hn:n<0
 all_goals first
  |(have hh:=YK hn;have he:=aiZ hn;have hg:=afL hn)|(have hh:=WE hn;have he:=akB hn;have hg:=agy hn)
 all_goals refine acs Tryz.func185 rfl ?_
 all_goals(repeat'((try(conv=>whnf));first
  |(with_reducible first|refine RD (by assumption) ?_|refine CQ (by assumption) ?_)|refine call_i ?_ ?_|refine Drw.mk (by kernel_rfl) ?_|refine slp_i ?_ ?_|(with_reducible refine uZ ?_ ?_)))
 all_goals(try refine Pr.mk ?_)
 all_goals first
  |((conv=>whnf);refine Sw.Loop.inv (α:=Nat) (λx=>[(1,.int .i64 (k:Nat)),(2,.ptr 2 0),(5,.str (qK x++qj n)),(6,.str (JC n))]) (λx=>[(2,.var [zs n,zl n])]) (λx=>x≤k+1-(qj n).size∧True) (λx=>(k+1-(qj n).size)-x) 0 ?_ ?_ ?_ (λx hx=>?_))|skip
 all_goals(repeat'((try(conv=>whnf));first
  |(with_reducible refine onB_d (λ_=>?_) (λ_=>?_))|refine obl_i ?_ ?_|refine Drw.mk (by kernel_rfl) ?_|refine slp_i ?_ ?_|refine Ends.mk ?_))
 all_goals(try refine Pr.mk ?_)
 all_goals(try simp only[Ad,MX,fU,Vp]at *)
 all_goals(try(have hE:=zpE (n:=n) (j:=x) (k:=k) hx.1 (by assumption);simp only[hE]at *))
 all_goals(try simp(disch:=omega) only[bW]at *)
 all_goals first
  |omega|trivial|(refine⟨by omega,by omega,by omega,by omega, ?_⟩;intro h;first|exact h|rfl|(cases h))|((with_reducible show(_:Nat)≤_);(try simp only[ZA,Zo,nP]);have e1:(ByteArray.mk #[48]).size=1:=rfl;have e2:(ByteArray.mk #[46]).size=1:=rfl;omega)|(refine KT ?_;rw[aiE (by assumption)];done)|(refine KT ?_;rw[aj8 (by assumption) rfl (by omega) rfl];done)|exact⟨oW _,trivial⟩|exact⟨rfl,rfl,(by show some (AV.str _)=some (AV.str _);rw[he]),(by show some (AV.str _)=some (AV.str _);rw[hg]),trivial⟩|((conv=>whnf);exact⟨x+1,⟨⟨rfl,rfl,(by show some (AV.str _)=some (AV.str _);rw[zpS]),rfl,trivial⟩,⟨rfl,trivial⟩,⟨by have hq:((qK x++qj n).size:Int)≤k:=(by assumption);rw[ZA,nP]at hq;omega,trivial⟩,(by have hq:((qK x++qj n).size:Int)≤k:=(by assumption);rw[ZA,nP]at hq;show(k+1-(qj n).size)-(x+1)<(k+1-(qj n).size)-x;omega)⟩⟩)⟩
instance akR(a:Rat):DenI Tryz.prog 138 [R a] (rz a≤20) (.tup [.str (exS a),.bool (Zk a).isSome]):=⟨λhp=>by
 have ia:RzB a 20:=⟨hp⟩
 all_goals refine acs Tryz.func138 rfl ?_
 all_goals first
  |((conv=>whnf);refine Sw.Loop.inv (α:=Nat) (λx=>[(1,.ptr 1 0),(4,.int .i64 (x:Nat))]) (λx=>[(1,.var (ratC a))]) (λx=>x≤31∧∀j<x,¬10^j%a.den=0) (λx=>31-x) 0 ?_ ?_ ?_ (λx hx=>?_))
 all_goals(repeat'((try(conv=>whnf));first
  |refine call_0 ?_|refine call_i ?_ ?_|(with_reducible refine onB_d (λ_=>?_) (λ_=>?_))|refine Drw.mk (by kernel_rfl) ?_|refine Ends.mk ?_))
 all_goals(try refine Pr.mk ?_)
 all_goals first|(show SubE _ _;repeat'(first|exact trivial|refine And.intro ?_ ?_))|(show SubB _ _;repeat'(first|exact trivial|refine And.intro ?_ ?_))|skip
 all_goals(try rfl)
 all_goals(try simp only[am3]at *)
 all_goals first
  |omega|exact⟨oW _,λj hj=>absurd hj (Jr _)⟩|(have z1:=Ic (n:=x) (by omega);exact⟨by omega,by omega⟩)|exact⟨WS hp (by omega),by omega⟩|((conv=>whnf);exact⟨x+1,⟨⟨rfl,aW (by omega),trivial⟩,⟨rfl,trivial⟩,⟨by omega,dR hx.2 (λe=>by have:=(N8 (a:=a) (x:=x)).2 e;first|contradiction|(simp_all;done))⟩,(by show 31-(x+1)<31-x;omega)⟩⟩)|(exfalso;have z3:=WO (WS (a:=a) (x:=x) hp (by omega)) (k:=x) (by omega);omega)|((with_reducible show packA _=_);obtain⟨e1,e2⟩:=ab6 (a:=a) (x:=x) (by omega) hx.2 (by first|assumption|(simp_all;done));rw[e1,e2];rfl)|((with_reducible show packA _=_);obtain⟨e1,e2⟩:=ac2 (a:=a) (λj hj=>hx.2 j (by omega));rw[e1,e2];rfl)⟩
instance aiv(c:Nat):DenI Tryz.prog 136 [.c (.v (.int .u8 (c:Nat)))] (True) (.bool (bJ c)):=⟨λhp=>by
 refine acs Tryz.func136 rfl ?_
 all_goals(repeat'((try(conv=>whnf));first
  |(with_reducible first|refine onB_t ?_|refine onB_f ?_|refine onB_d (λ_=>?_) (λ_=>?_))|refine Ends.mk ?_))
 all_goals first
  |(refine bE ?_;rw[Bf];simp only[bJ,H6,fC,decide_eq_true_eq,AB,iff_true,true_iff,iff_false,false_iff];omega)⟩
instance ai5(c:Nat):DenI Tryz.prog 183 [.c (.v (.int .u8 (c:Nat)))] (True) (.bool (uD c)):=⟨λhp=>by
 refine acs Tryz.func183 rfl ?_
 all_goals(repeat'((try(conv=>whnf));first
  |(with_reducible first|refine onB_t ?_|refine onB_f ?_|refine onB_d (λ_=>?_) (λ_=>?_))|refine Ends.mk ?_))
 all_goals first
  |(refine bE ?_;rw[Bf];simp only[uD,H6,fC,decide_eq_true_eq,AB,iff_true,true_iff,iff_false,false_iff];omega)⟩
instance ahT(s:ByteArray):DenI Tryz.prog 137 [.c (.v (.string s))] (s.size≤1000000) (.int .i64 (oN s:Nat)):=⟨λhp=>by
 refine acs Tryz.func137 rfl ?_
 all_goals first
  |((conv=>whnf);refine Sw.Loop.inv (α:=Nat) (λx=>[(0,.c (.v (.string s))),(3,.int .i64 (x:Nat))]) (λx=>[]) (λx=>x≤s.size∧∀j<x,UZ ((pO s).getD j 0)=true) (λx=>s.size-x) 0 ?_ ?_ ?_ (λx hx=>?_))
 all_goals(repeat'((try(conv=>whnf));first
  |refine call_0 ?_|(with_reducible first|refine onB_t ?_|refine onB_f ?_|refine onB_d (λ_=>?_) (λ_=>?_))|refine OnB.mk (λ_=>?_) (λ_=>?_)|(with_reducible refine uZ ?_ ?_)|refine Ends.mk ?_))
 all_goals(try refine Pr.mk ?_)
 all_goals(try simp only[Ad,MX,fU,Vp]at *)
 all_goals first
  |omega|trivial|exact⟨oW _,λj hj=>absurd hj (Jr _)⟩|((conv=>whnf);exact⟨x+1,⟨⟨rfl,aW (by omega),trivial⟩,trivial,⟨by omega,dR hx.2 (by unfold UZ;simp_all<;>omega)⟩,(by show s.size-(x+1)<s.size-x;omega)⟩⟩)|((with_reducible show packA _=_);refine iE ?_;rw[Vo hx.1 hx.2 (λh=>by first|(exfalso;omega)|(unfold UZ;simp_all<;>omega))];done)⟩
instance aiD(s:ByteArray):DenI Tryz.prog 103 [.c (.v (.string s))] (s.size≤1000000) (.bool (IE s)):=⟨λhp=>by
 refine acs Tryz.func103 rfl ?_
 all_goals(repeat'((try(conv=>whnf));first
  |refine call_0 ?_|refine call_i ?_ ?_|(with_reducible first|refine onB_t ?_|refine onB_f ?_|refine onB_d (λ_=>?_) (λ_=>?_))|refine OnB.mk (λ_=>?_) (λ_=>?_)|(with_reducible refine uZ ?_ ?_)|refine Ends.mk ?_))
 all_goals(try refine Pr.mk ?_)
 all_goals(try simp only[Ad,MX,fU,Vp]at *)
 all_goals first
  |omega|(refine bE ?_;unfold IE;rw[Bf];simp_all;done)|(refine bE ?_;unfold IE;rw[Bf];simp_all;omega)⟩
end Go.Proofs.YtmniihkenijjpaaGreatDoor
