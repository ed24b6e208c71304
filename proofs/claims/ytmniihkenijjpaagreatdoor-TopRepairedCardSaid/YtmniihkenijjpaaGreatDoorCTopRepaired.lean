/-
  What the functions swarftop.TopRepaired, swarftop.TopRepaired, swarftop.TopRepaired answer, each out of its text by the abstract run.
  Repairing a repaired drawing again changes nothing and reports at most open ends: the law returns true for every drawing and number.
  Conditions: none.
-/
import Derived.Test.YtmniihkenijjpaaGreatDoorGTopRepaired
import Derived.Shelf.LaysM
import Derived.Shelf.Strconv.Itoa1
import Derived.Shelf.Strconv.Itoa2
import Derived.Lib.Walk
import Derived.Lib.ItoaMem
import Derived.Lib.ItoaLen
import Derived.Lib.AppendIntMem
import Derived.WalkKit
import Derived.BigCall
import Derived.BigGuard
import Derived.Shelf.SlicesE.Clone
set_option linter.all false
namespace Go.Proofs.YtmniihkenijjpaaGreatDoor
open Go Go.RowKit Go.Sw Go.Shelf
set_option maxRecDepth 100000
set_option maxHeartbeats 16000000
set_option synthInstance.maxSize 4000
set_option synthInstance.maxHeartbeats 400000
theorem Xf{m:Nat}(h:m<256):IntKind.i64.wrap (20*IntKind.i64.wrap (m:Nat))=((20*m:Nat):Int)/\(-9223372036854775808<=IntKind.i64.wrap (20*IntKind.i64.wrap (m:Nat))/\IntKind.i64.wrap (20*IntKind.i64.wrap (m:Nat))<=9223372036854775807)/\rz ((IntKind.i64.wrap (20*IntKind.i64.wrap (m:Nat)):Int):Rat)<=12/\¬((IntKind.i64.wrap (20*IntKind.i64.wrap (m:Nat)):Int):Rat)<0:=by
 have h1:IntKind.i64.wrap (m:Nat)=(m:Nat):=aT ω ω;have h2:IntKind.i64.wrap (20*IntKind.i64.wrap (m:Nat))=((20*m:Nat):Int):=by rw[h1,aT ω ω];omega
 rw[h2];refine⟨rfl,⟨ω,ω⟩,Nat.le_trans (Vh _ ω ω) ψ,λhn=>?_⟩;have:=Rat.intCast_lt_intCast.1 (show(((20*m:Nat):Int):Rat)<((0:Int):Rat)from hn);omega
instance(priority:=40) TG(ls:List LayD)(es:List EntR)(m:Nat):DenI Tryz.prog 10 [.agg [(.sl 3 (ls.map bI)),.sl 7 (es.map bU)],.int .u8 (m:Nat)] ((decide (es.length<=12) && yt ls es)=false) (.bool true):=⟨λhp=>by
 refine aI Tryz.func10 rfl ?_
 all_goals(repeat'((try(conv=>whnf));first
  |refine aaj ?_|refine y5 ?_ ?_|(with_reducible first|refine aam ?_|refine aao ?_|refine aav (λ_=>?_) (λ_=>?_))|refine zat (λ_=>?_) (λ_=>?_)|apply zaq))
 all_goals(try apply zar)
 all_goals(try simp only[List.length_map,Int.toNat_natCast]at *)
 all_goals first
  |trivial|(exfalso;simp_all;done)⟩
instance(priority:=50) Tm(ls:List LayD)(es:List EntR)(m:Nat):DenI Tryz.prog 10 [.agg [(.sl 3 (ls.map bI)),.sl 7 (es.map bU)],.int .u8 (m:Nat)] ((decide (es.length<=12) && yt ls es)=true/\m<256/\ls.length<=1000/\es.length<=1000/\(∀l∈ls,l.name.size<=1000)/\(∀e∈es,qQ e)/\gJ ls es≠0) (.bool true):=⟨λhp=>by
 obtain⟨hs,hm,hp⟩:=hp;have hp1:=hp;obtain⟨h1,h2,h3,h4,h5⟩:=hp1;obtain⟨q1,q2,q3,q4⟩:=Xf hm
 haveI i1:DenI Tryz.prog 13 [.agg [(.sl 3 (ls.map bI)),.sl 7 (es.map bU)],R ((IntKind.i64.wrap (20*IntKind.i64.wrap (m:Nat)):Int):Rat)] True (.tup [.agg [.sl 3 [],.sl 7 []],.c (.sl 0 []),.int .i64 (gJ ls es)]):=⟨λ_=>by have h:=(Vy ls es ((IntKind.i64.wrap (20*IntKind.i64.wrap (m:Nat)):Int):Rat)).den ⟨h1,h2,h3,h4,.inl h5,q3⟩;rwa [if_pos h5]at h⟩
 all_goals refine aI Tryz.func10 rfl ?_
 all_goals(repeat'((try(conv=>whnf));first
  |refine aaj ?_|refine y5 ?_ ?_|(with_reducible first|refine aam ?_|refine aao ?_|refine aav (λ_=>?_) (λ_=>?_))|refine zat (λ_=>?_) (λ_=>?_)|apply zaq))
 all_goals(try apply zar)
 all_goals(try simp only[List.length_map,Int.toNat_natCast]at *)
 all_goals first
  |trivial⟩
instance(priority:=60) Tc(ls:List LayD)(es:List Ent)(m:Nat):DenI Tryz.prog 10 [.agg [(.sl 3 (ls.map bI)),.sl 7 (es.map bF)],.int .u8 (m:Nat)] ((decide ((es.map dF).length<=12) && yt ls (es.map dF))=true/\m<256/\ls.length<=1000/\(∀l∈ls,l.name.size<=1000)/\es.length<=12/\(∀e∈es,okV e)/\(∀e∈es,qQ (dF e))/\rz ((IntKind.i64.wrap (20*IntKind.i64.wrap (m:Nat)):Int):Rat)<=12/\¬((IntKind.i64.wrap (20*IntKind.i64.wrap (m:Nat)):Int):Rat)<0/\gJ ls (es.map dF)=0) (.bool true):=⟨λhp=>by
 obtain⟨hs,hm,hp⟩:=hp;have hp1:=hp;obtain⟨h1,h2,h3,h4,h5,h6,h7,h8⟩:=hp1;obtain⟨z1,z2,z3,z4⟩:=Xf hm;obtain⟨k1,k2,k3,k4⟩:=Ej (q:=((IntKind.i64.wrap (20*IntKind.i64.wrap (m:Nat)):Int):Rat)) h3 h4 h5 h8;have kp:=(OB ls es ((IntKind.i64.wrap (20*IntKind.i64.wrap (m:Nat)):Int):Rat)).den hp;have kq:=(OB ls (aG (((IntKind.i64.wrap (20*IntKind.i64.wrap (m:Nat)):Int):Rat)*((IntKind.i64.wrap (20*IntKind.i64.wrap (m:Nat)):Int):Rat)) es).es ((IntKind.i64.wrap (20*IntKind.i64.wrap (m:Nat)):Int):Rat)).den ⟨h1,h2,k1,k2,k3,h6,h7,k4⟩;have kc:=(VD ls (aG (((IntKind.i64.wrap (20*IntKind.i64.wrap (m:Nat)):Int):Rat)*((IntKind.i64.wrap (20*IntKind.i64.wrap (m:Nat)):Int):Rat)) es).es ((IntKind.i64.wrap (20*IntKind.i64.wrap (m:Nat)):Int):Rat)).den ⟨h1,h2,k1,k2,k3,h6,h7,k4⟩;have k0:=(Aw ls es).den ⟨h1,ω,h2,h5⟩;rw[h8]at k0;have kv:=(Aw ls (aG (((IntKind.i64.wrap (20*IntKind.i64.wrap (m:Nat)):Int):Rat)*((IntKind.i64.wrap (20*IntKind.i64.wrap (m:Nat)):Int):Rat)) es).es).den ⟨h1,ω,h2,k3⟩;rw[k4]at kv;obtain⟨r1,r2⟩:=EJ (((IntKind.i64.wrap (20*IntKind.i64.wrap (m:Nat)):Int):Rat)*((IntKind.i64.wrap (20*IntKind.i64.wrap (m:Nat)):Int):Rat)) es;rw[Cm r2]at kc;rw[r1]at kq;have hcl:=Dl (tol:=((IntKind.i64.wrap (20*IntKind.i64.wrap (m:Nat)):Int):Rat)) k1 k2;have kf:=(VJ (aG (((IntKind.i64.wrap (20*IntKind.i64.wrap (m:Nat)):Int):Rat)*((IntKind.i64.wrap (20*IntKind.i64.wrap (m:Nat)):Int):Rat)) (aG (((IntKind.i64.wrap (20*IntKind.i64.wrap (m:Nat)):Int):Rat)*((IntKind.i64.wrap (20*IntKind.i64.wrap (m:Nat)):Int):Rat)) es).es).cs).den hcl;rw[Cm r2]at kf;generalize(aG (((IntKind.i64.wrap (20*IntKind.i64.wrap (m:Nat)):Int):Rat)*((IntKind.i64.wrap (20*IntKind.i64.wrap (m:Nat)):Int):Rat)) (aG (((IntKind.i64.wrap (20*IntKind.i64.wrap (m:Nat)):Int):Rat)*((IntKind.i64.wrap (20*IntKind.i64.wrap (m:Nat)):Int):Rat)) es).es).cs=C2 at *;generalize(aG (((IntKind.i64.wrap (20*IntKind.i64.wrap (m:Nat)):Int):Rat)*((IntKind.i64.wrap (20*IntKind.i64.wrap (m:Nat)):Int):Rat)) es).es=E1 at *;generalize(aG (((IntKind.i64.wrap (20*IntKind.i64.wrap (m:Nat)):Int):Rat)*((IntKind.i64.wrap (20*IntKind.i64.wrap (m:Nat)):Int):Rat)) es).cs=C1 at *
 haveI i1:DenI Tryz.prog 13 [.agg [(.sl 3 (ls.map bI)),.sl 7 (es.map bF)],R ((IntKind.i64.wrap (20*IntKind.i64.wrap (m:Nat)):Int):Rat)] True (.tup [.agg [(.sl 3 (ls.map bI)),.sl 7 (E1.map bF)],.c (.sl 19 (C1.map mJ)),.int .i64 0]):=⟨λ_=>kp⟩
 haveI i2:DenI Tryz.prog 13 [.agg [(.sl 3 (ls.map bI)),.sl 7 (E1.map bF)],R ((IntKind.i64.wrap (20*IntKind.i64.wrap (m:Nat)):Int):Rat)] True (.tup [.agg [(.sl 3 (ls.map bI)),.sl 7 (E1.map bF)],.c (.sl 19 (C2.map mJ)),.int .i64 0]):=⟨λ_=>kq⟩
 haveI i3:DenI Tryz.prog 19 [.agg [(.sl 3 (ls.map bI)),.sl 7 (E1.map bF)],R ((IntKind.i64.wrap (20*IntKind.i64.wrap (m:Nat)):Int):Rat)] True (.bool true):=⟨λ_=>kc⟩
 haveI i4:DenI Tryz.prog 20 [.agg [(.sl 3 (ls.map bI)),.sl 7 (E1.map bF)]] True (.int .i64 0):=⟨λ_=>kv⟩
 haveI i5:DenI Tryz.prog 20 [.agg [(.sl 3 (ls.map bI)),.sl 7 (es.map bF)]] True (.int .i64 0):=⟨λ_=>k0⟩
 haveI i6:DenI Tryz.prog 43 [.c (.sl 19 (C2.map mJ)),.c (.v (.func (.func 44) #[] #[]))] True (.bool false):=⟨λ_=>kf⟩
 all_goals refine aI Tryz.func10 rfl ?_
 all_goals(repeat'((try(conv=>whnf));first
  |refine aaj ?_|refine y5 ?_ ?_|(with_reducible first|refine aam ?_|refine aao ?_|refine aah (λ_=>?_) (λ_=>?_)|refine aav (λ_=>?_) (λ_=>?_))|refine zat (λ_=>?_) (λ_=>?_)|apply zaq))
 all_goals(try apply zar)
 all_goals(try simp only[List.length_map,Int.toNat_natCast]at *)
 all_goals first
  |trivial|exact⟨h1,ω,λe he=>by have:=(k3 e he).2.2.1;simp only[dF,List.length_map]at this;omega⟩⟩
theorem Xz(ls:List LayD)(es:List EntR)(m:Nat)(hm:m<256):Den Tryz.prog 10 [.agg [(.sl 3 (ls.map bI)),.sl 7 (es.map bU)],.int .u8 (m:Nat)] (.bool true):=by
 cases hs:(decide (es.length<=12)&&yt ls es)with
 |false=>exact(TG ls es m).den hs
 |true =>
  have hs2:=hs;rw[Bool.and_eq_true,decide_eq_true_eq]at hs2;obtain⟨g3,hb⟩:=hs2;obtain⟨g1,g2,g4⟩:=QB hb;obtain⟨z1,z2,z3,z4⟩:=Xf hm
  by_cases hv:gJ ls es=0
  .obtain⟨xs,rfl,hx⟩:=Gy g4 hv;have h:=(Tc ls xs m).den ⟨hs,hm,ω,g2,by simpa using g3,hx,λe he=>g4 _ (List.mem_map_of_mem he),z3,z4,hv⟩;rw[<-qO]at h;exact h
  .exact(Tm ls es m).den ⟨hs,hm,ω,ω,g2,g4,hv⟩
end Go.Proofs.YtmniihkenijjpaaGreatDoor
namespace Go.Proofs.YtmniihkenijjpaaGreatDoor
open Go Go.RowKit Go.Sw Go.ChangeShapes Go.WideShapes Go.ChangeAt
set_option maxRecDepth 100000
theorem qx:∀xs,agt [.cons (.slice (.cons (.str) (.cons (.int .i64) (.cons (.int .i64) .nil)))) (.cons (.slice (.cons (.int .i64) (.cons (.str) (.cons (.slice (.cons (.cons (.cons (.bool) (.cons (.slice (.int .u32)) .nil)) (.cons (.cons (.bool) (.cons (.slice (.int .u32)) .nil)) .nil)) (.cons (.cons (.cons (.bool) (.cons (.slice (.int .u32)) .nil)) (.cons (.cons (.bool) (.cons (.slice (.int .u32)) .nil)) .nil)) .nil))) (.cons (.cons (.cons (.bool) (.cons (.slice (.int .u32)) .nil)) (.cons (.cons (.bool) (.cons (.slice (.int .u32)) .nil)) .nil)) .nil))))) .nil),.int .u8] xs->Den Tryz.prog 10 xs (.bool true):=by
 rintro xs ⟨_,_,⟨_,h,rfl⟩,⟨_,_,⟨_,h2,rfl⟩,rfl,rfl⟩,rfl⟩;obtain⟨ls,es,rfl⟩:=LY h;obtain⟨n,w,rfl⟩:=air h2;obtain⟨m,rfl,hm⟩:=aiE η w
 try simp only[List.append_nil,List.nil_append,List.cons_append]
 exact Xz ls es m hm
theorem oC{W:World}(h:laidMetH Tryz.prog Rows.topRepairedRow.laid W):Wld.ok Tryz.prog W:=by
 rw[MakeChecks.laidMetH_plain _ _ _ ζ]at h
 exact⟨ai5 (zs:=Lib.pow10Tab) (g:=1) (t:=353) (e:=152) h (List.mem_of_getElem? (i:=2) ζ) ζ ζ Tryz.underlying353 Tryz.underlying152 ζ ζ,
  KY (nm := "swarf/drawing.shapes") (xs:=[(⟨#[]⟩,0),(⟨#[108,105,110,101]⟩,2),(⟨#[97,114,99]⟩,3),(⟨#[99,105,114,99,108,101]⟩,1)]) (g:=0) (t:=172) (e:=171) h (List.mem_of_getElem? (i:=3) ζ) ζ ζ Tryz.underlying172 Tryz.underlying171 ζ ζ rfl rfl ζ ζ ζ⟩
theorem mO(os:Os)(started:os.Started)(H:Type)(enc:TypeId×Value->H):
 ReturnsInHanded {} Tryz.checked os 10 .any (λw args=>(Rows.topRepairedSpec.pre enc Tryz.prog Tryz.f10 [] false w args/\laidMetH Tryz.prog Rows.topRepairedRow.laid w)/\sizedMet enc Tryz.prog Tryz.f10 (OpenSpec.ofChange Rows.topRepairedSpec) false w args) (Rows.topRepairedSpec.post enc Tryz.prog Tryz.f10 false true false false):=by
 refine returnsInHanded_of_change_and (C:=Tryz.checked) (X:=λw _=>laidMetH Tryz.prog Rows.topRepairedRow.laid w) (λ_ _ _ hh h=>h.of_heap hh) Tryz.own started ζ Tryz.func10
  (ChangeSpec.witness_shaped (enc:=enc) (C:=Tryz.checked) (os:=os) (X:=λw _=>laidMetH Tryz.prog Rows.topRepairedRow.laid w) false (World.laidAll Tryz.prog os Rows.topRepairedRow.laid) #[.agg #[.slice none 0 0,.slice none 0 0],.int .u8 0] 12 (World.laidAll_os _ _ _)
   (World.shaped_of_ZipB ζ ζ) ζ ζ ζ
   (by rw[MakeChecks.laidMetH_plain _ _ _ ζ];exact laidMet_laidAll _ ζ ζ)) ?_
 intro W base args ds gs before hval0 hW _ _ hL _;have hW':=hW;obtain⟨p,q,hA0,hV,rfl,_,_⟩:=hW;have hA:DataW.TrodAll enc Tryz.prog W 0 (λ_=>true) true Tryz.f10.params.toList args.toList ds p:=hA0;obtain⟨rfl,rfl⟩:=trodVars_none hV;obtain⟨d0,d1,rfl⟩:=len2 (show ds.length=2 from adz hA);simp only[List.append_nil]at hW';have hlt:∀x∈p,x.block<W.heap.size:=λx hx=>by simpa using hW'.lt x hx
 refine(aiy (Ts:=[.cons (.slice (.cons (.str) (.cons (.int .i64) (.cons (.int .i64) .nil)))) (.cons (.slice (.cons (.int .i64) (.cons (.str) (.cons (.slice (.cons (.cons (.cons (.bool) (.cons (.slice (.int .u32)) .nil)) (.cons (.cons (.bool) (.cons (.slice (.int .u32)) .nil)) .nil)) (.cons (.cons (.cons (.bool) (.cons (.slice (.int .u32)) .nil)) (.cons (.cons (.bool) (.cons (.slice (.int .u32)) .nil)) .nil)) .nil))) (.cons (.cons (.cons (.bool) (.cons (.slice (.int .u32)) .nil)) (.cons (.cons (.bool) (.cons (.slice (.int .u32)) .nil)) .nil)) .nil))))) .nil),.int .u8]) ζ qx (λj t v hj ha=>hval0 j t v (by simpa using hj) (by simpa using ha)) hA (oC hL)).mono λe W' he=>?_
 obtain⟨_,rfl,rfl,hb⟩:=he;refine⟨_,rfl,_,_,_,[],_,[],hW', ?_,acT Tryz.laidOut hb ζ hlt hA,rfl,hb.frame _,λh=>by cases h⟩;exact trodAll_mk1 (shut_bool Tryz.underlying4 _)
theorem qo:Rows.TopRepairedSaid :=
 OpenClaim.holds_of_wide 10 Tryz.f10 rfl rfl rfl rfl rfl rfl rfl ⟨rfl,rfl,rfl,rfl,rfl⟩ rfl rfl rfl rfl rfl ζ Tryz.func10 nJ
  (of_decide_eq_true ζ) (by unfold Func.isWrapper;first|(rw[if_pos (by decide +kernel)];kernel_rfl)|(rw[if_neg (by decide +kernel)];exact⟨rfl,rfl⟩))
  (λos started H enc _=>mO os started H enc)
theorem TopRepaired_holds:Rows.TopRepairedCardSaid :=
 Claim7.holds_tied_plain_at .later [] [.data,.data,.data,.data] true (true,"f3ac26bbc19fa5dd170bbef99dadcbcd1f24a254e3c8ae9d56f844f18c3416bf") false qo (λ_ h=>by cases h) ζ (λ_ h=>by cases h) topRepaired_row_tie rfl ⟨rfl,rfl⟩ o7 rfl
  (λf fn hf hfn=>by
   obtain rfl:f=10:=Option.some.inj ((show Tryz.prog.funcNamed "swarf/swarftop.TopRepaired" = some 10 by kernel_rfl).symm.trans hf) |>.symm;obtain rfl:fn=Tryz.f10:=(Option.some.inj (Tryz.func10.symm.trans hfn)).symm
   exact⟨oD,λj t ht=>by
    have hm:t∈Tryz.f10.params.toList:=Array.mem_toList_iff.2 (Array.mem_of_getElem? ht);have hall:(Tryz.f10.params.toList.all λu=>!Tryz.prog.wantsStandIn u)=true:=ζ
    exact(show Tryz.prog.wantsStandIn t=false by simpa using List.all_eq_true.1 hall t hm)⟩)
  oU
#print axioms TopRepaired_holds
end Go.Proofs.YtmniihkenijjpaaGreatDoor
