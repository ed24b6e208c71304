/-
  Rules of the abstract run, plain laws, and what functions answer, for the law RepairDistances.
  Conditions: none.
-/
import Derived.Test.YtmniihkenijjpaaGreatDoorQ17
import Derived.Shelf.LaysM
import Derived.Shelf.Strconv.Itoa1
import Derived.Shelf.Strconv.Itoa2
import Derived.Lib.Walk
import Derived.Lib.ItoaMem
import Derived.Lib.ItoaLen
import Derived.Lib.AppendIntMem
import Derived.WalkKit
import Derived.BigCall
import Derived.BigGuard
import Derived.Shelf.SlicesE.Clone
set_option linter.all false
namespace Go.Proofs.YtmniihkenijjpaaGreatDoor
open Go Go.RowKit Go.Sw Go.Shelf
set_option maxRecDepth 100000
set_option maxHeartbeats 8000000
set_option synthInstance.maxSize 4000
set_option synthInstance.maxHeartbeats 400000
instance abO(ls:List LayD)(es:List EntR)(q:Rat):DenI Tryz.prog 12 [.agg [(.sl 3 (ls.map dB)),.sl 7 (es.map dL)],R q] True (.bool (smA ls es (nJ q))):=⟨λ_=>(ads ls es (nJ q)).den trivial⟩
instance (priority:=2000) ags(ls:List LayD)(es:List Ent)(q:Rat):DenI Tryz.prog 12 [.agg [(.sl 3 (ls.map dB)),.sl 7 (es.map bZ)],R q] True (.bool (smA ls (es.map fV) (nJ q))):=⟨λ_=>by
 have h:=(abO ls (es.map fV) q).den trivial;rw [zD] at h
 exact h⟩
instance afu(n:Nat):DenI Tryz.prog 184 [.int .i64 (n:Nat)] (n≤31) (R ((p10 n:Int):Rat)):=⟨λhp=>by
 refine aiE Tryz.func184 rfl ?_
 all_goals (repeat' ((try (conv=>whnf));first
  |refine ak ?_ ?_))
 all_goals (try refine Pr.mk ?_)
 all_goals first
  |((conv=>whnf);refine Sw.Loop.inv (α:=Nat) (λx=>[(0,.int .i64 (n:Nat)),(2,.ptr 2 0),(3,.ptr 3 0),(4,.int .i64 (x:Nat))]) (λx=>[(2,.var [.v (.bool false),.sl 1 [],.v (.bool false),.sl 1 []]),(3,.var (oZ ((p10 x:Int):Rat)))]) (λx=>x≤n∧True) (λx=>n-x) 0 ?_ ?_ ?_ (λx hx=>?_))
  |skip
 all_goals (repeat' ((try (conv=>whnf));first
  |refine ak ?_ ?_
  |(with_reducible refine au (λ_=>?_) (λ_=>?_))
  |refine Drw.mk (by kernel_rfl) ?_
  |refine Ends.mk ?_))
 all_goals (try refine Pr.mk ?_)
 all_goals first|(show SubE _ _;repeat' (first|exact trivial|refine And.intro ?_ ?_))|(show SubB _ _;repeat' (first|exact trivial|refine And.intro ?_ ?_))|skip
 all_goals (try rfl)
 all_goals first
  |omega
  |exact ⟨Nat.zero_le _,trivial⟩
  |(have z1:=Gq (n:=x) (by omega);exact ⟨by omega,Nat.le_trans (Le 10 (by decide) (by decide)) (by decide)⟩)
  |((with_reducible show aB _=_);have hxx:x=n:=(by omega);subst hxx;rfl)
  |((conv=>whnf);exact ⟨x+1,⟨⟨rfl,rfl,rfl,aX (by omega),trivial⟩,⟨rfl,(by show some (Bk.var (oZ (((p10 x:Int):Rat)*((10:Int):Rat))))=some (Bk.var (oZ ((p10 (x+1):Int):Rat)));rw [YM]),trivial⟩,⟨by omega,trivial⟩,by show n-(x+1)<n-x;omega⟩⟩)⟩
instance ag2(n:Int)(k:Nat):DenI Tryz.prog 185 [Z n,.int .i64 (k:Nat)] (sz n≤50∧k≤30) (.str (Qu n k)):=⟨λhp=>by
 have z0:=Fh hp.1;have z1:=Eu n;have z2:=LZ hp.1 hp.2;have z3:=MZ n;have z4:=aaL n;have hsz:sz n≤100000:=Nat.le_trans hp.1 (by decide)
 by_cases hn:n<0
 all_goals first
  |(have hh:=UZ hn;have he:=afZ hn;have hg:=ac7 hn)
  |(have hh:=QM hn;have he:=agj hn;have hg:=ad9 hn)
 all_goals refine aiE Tryz.func185 rfl ?_
 all_goals (repeat' ((try (conv=>whnf));first
  |(with_reducible refine NZ (by assumption) ?_)
  |(with_reducible refine Bv (by assumption) ?_)
  |refine ak ?_ ?_
  |refine Drw.mk (by kernel_rfl) ?_
  |refine dF ?_ ?_
  |(with_reducible refine tN ?_ ?_)))
 all_goals (try refine Pr.mk ?_)
 all_goals first
  |((conv=>whnf);refine Sw.Loop.inv (α:=Nat) (λx=>[(1,.int .i64 (k:Nat)),(2,.ptr 2 0),(5,.str (o9 x++oN n)),(6,.str (GN n))]) (λx=>[(2,.var [zs n,zl n])]) (λx=>x≤k+1-(oN n).size∧True) (λx=>(k+1-(oN n).size)-x) 0 ?_ ?_ ?_ (λx hx=>?_))
  |skip
 all_goals (repeat' ((try (conv=>whnf));first
  |(with_reducible refine au (λ_=>?_) (λ_=>?_))
  |refine aU ?_ ?_
  |refine Drw.mk (by kernel_rfl) ?_
  |refine dF ?_ ?_
  |refine Ends.mk ?_))
 all_goals (try refine Pr.mk ?_)
 all_goals (try simp only [Option.getD_some,Option.getD_none,Int.toNat_natCast,Int.toNat_zero] at *)
 all_goals (try (have hE:=zpE (n:=n) (j:=x) (k:=k) hx.1 (by assumption);simp only [hE] at *))
 all_goals (try simp (disch:=omega) only [bY] at *)
 all_goals first
  |omega
  |trivial
  |(refine ⟨by omega,by omega,by omega,by omega, ?_⟩;intro h;first|exact h|rfl|(cases h))
  |((with_reducible show (_:Nat)≤_);(try simp only [ByteArray.size_append,ByteArray.size_extract,mD]);have e1:(ByteArray.mk #[48]).size=1:=rfl;have e2:(ByteArray.mk #[46]).size=1:=rfl;omega)
  |(refine Jv ?_;rw [agQ (by assumption)];done)
  |(refine Jv ?_;rw [agN (by assumption) rfl (by omega) rfl];done)
  |exact ⟨Nat.zero_le _,trivial⟩
  |exact ⟨rfl,rfl,(by show some (AV.str _)=some (AV.str _);rw [he]),(by show some (AV.str _)=some (AV.str _);rw [hg]),trivial⟩
  |((conv=>whnf);exact ⟨x+1,⟨⟨rfl,rfl,(by show some (AV.str _)=some (AV.str _);rw [zpS]),rfl,trivial⟩,⟨rfl,trivial⟩,⟨by have hq:((o9 x++oN n).size:Int)≤k:=(by assumption);rw [ByteArray.size_append,mD] at hq;omega,trivial⟩,(by have hq:((o9 x++oN n).size:Int)≤k:=(by assumption);rw [ByteArray.size_append,mD] at hq;show (k+1-(oN n).size)-(x+1)<(k+1-(oN n).size)-x;omega)⟩⟩)⟩
instance ahp(a:Rat):DenI Tryz.prog 138 [R a] (rz a≤20) (.tup [.str (exS a),.bool (Wh a).isSome]):=⟨λhp=>by
 have ia:RzB a 20:=⟨hp⟩
 all_goals refine aiE Tryz.func138 rfl ?_
 all_goals first
  |((conv=>whnf);refine Sw.Loop.inv (α:=Nat) (λx=>[(1,.ptr 1 0),(4,.int .i64 (x:Nat))]) (λx=>[(1,.var (oZ a))]) (λx=>x≤31∧∀j<x,¬10 ^ j % a.den=0) (λx=>31-x) 0 ?_ ?_ ?_ (λx hx=>?_))
 all_goals (repeat' ((try (conv=>whnf));first
  |refine aG ?_
  |refine ak ?_ ?_
  |(with_reducible refine au (λ_=>?_) (λ_=>?_))
  |refine Drw.mk (by kernel_rfl) ?_
  |refine Ends.mk ?_))
 all_goals (try refine Pr.mk ?_)
 all_goals first|(show SubE _ _;repeat' (first|exact trivial|refine And.intro ?_ ?_))|(show SubB _ _;repeat' (first|exact trivial|refine And.intro ?_ ?_))|skip
 all_goals (try rfl)
 all_goals (try simp only [dU] at *)
 all_goals first
  |omega
  |exact ⟨Nat.zero_le _,λj hj=>absurd hj (Nat.not_lt_zero _)⟩
  |(have z1:=Gq (n:=x) (by omega);exact ⟨by omega,by omega⟩)
  |exact ⟨RF hp (by omega),by omega⟩
  |((conv=>whnf);exact ⟨x+1,⟨⟨rfl,aX (by omega),trivial⟩,⟨rfl,trivial⟩,⟨by omega,dN hx.2 (λe=>by have:=(dm1 (a:=a) (x:=x)).2 e;first|contradiction|(simp_all;done))⟩,(by show 31-(x+1)<31-x;omega)⟩⟩)
  |(exfalso;have z3:=U4 (RF (a:=a) (x:=x) hp (by omega)) (k:=x) (by omega);omega)
  |((with_reducible show aB _=_);obtain ⟨e1,e2⟩:=YH (a:=a) (x:=x) (by omega) hx.2 (by first|assumption|(simp_all;done));rw [e1,e2];rfl)
  |((with_reducible show aB _=_);obtain ⟨e1,e2⟩:=aad (a:=a) (λj hj=>hx.2 j (by omega));rw [e1,e2];rfl)⟩
instance af8(c:Nat):DenI Tryz.prog 136 [.c (.v (.int .u8 (c:Nat)))] (True) (.bool (Zm c)):=⟨λhp=>by
 refine aiE Tryz.func136 rfl ?_
 all_goals (repeat' ((try (conv=>whnf));first
  |(with_reducible refine aJ ?_)
  |(with_reducible refine aK ?_)
  |(with_reducible refine au (λ_=>?_) (λ_=>?_))
  |refine Ends.mk ?_))
 all_goals first
  |(refine bE ?_;rw [Bool.eq_iff_iff];simp only [Zm,Bool.or_eq_true,Bool.and_eq_true,decide_eq_true_eq,Bool.false_eq_true,iff_true,true_iff,iff_false,false_iff];omega)⟩
instance afJ(c:Nat):DenI Tryz.prog 183 [.c (.v (.int .u8 (c:Nat)))] (True) (.bool (dgB c)):=⟨λhp=>by
 refine aiE Tryz.func183 rfl ?_
 all_goals (repeat' ((try (conv=>whnf));first
  |(with_reducible refine aJ ?_)
  |(with_reducible refine aK ?_)
  |(with_reducible refine au (λ_=>?_) (λ_=>?_))
  |refine Ends.mk ?_))
 all_goals first
  |(refine bE ?_;rw [Bool.eq_iff_iff];simp only [dgB,Bool.or_eq_true,Bool.and_eq_true,decide_eq_true_eq,Bool.false_eq_true,iff_true,true_iff,iff_false,false_iff];omega)⟩
instance aeR(s:ByteArray):DenI Tryz.prog 137 [.c (.v (.string s))] (s.size≤1000000) (.int .i64 (rnN s:Nat)):=⟨λhp=>by
 refine aiE Tryz.func137 rfl ?_
 all_goals first
  |((conv=>whnf);refine Sw.Loop.inv (α:=Nat) (λx=>[(0,.c (.v (.string s))),(3,.int .i64 (x:Nat))]) (λx=>[]) (λx=>x≤s.size∧∀j<x,QE ((oH s).getD j 0)=true) (λx=>s.size-x) 0 ?_ ?_ ?_ (λx hx=>?_))
 all_goals (repeat' ((try (conv=>whnf));first
  |refine aG ?_
  |(with_reducible refine aJ ?_)
  |(with_reducible refine aK ?_)
  |(with_reducible refine au (λ_=>?_) (λ_=>?_))
  |refine OnB.mk (λ_=>?_) (λ_=>?_)
  |(with_reducible refine tN ?_ ?_)
  |refine Ends.mk ?_))
 all_goals (try refine Pr.mk ?_)
 all_goals (try simp only [Option.getD_some,Option.getD_none,Int.toNat_natCast,Int.toNat_zero] at *)
 all_goals first
  |omega
  |trivial
  |exact ⟨Nat.zero_le _,λj hj=>absurd hj (Nat.not_lt_zero _)⟩
  |((conv=>whnf);exact ⟨x+1,⟨⟨rfl,aX (by omega),trivial⟩,trivial,⟨by omega,dN hx.2 (by unfold QE;simp_all<;>omega)⟩,(by show s.size-(x+1)<s.size-x;omega)⟩⟩)
  |((with_reducible show aB _=_);refine iE ?_;rw [UF hx.1 hx.2 (λh=>by first|(exfalso;omega)|(unfold QE;simp_all<;>omega))];done)⟩
instance agK(s:ByteArray):DenI Tryz.prog 103 [.c (.v (.string s))] (s.size≤1000000) (.bool (Gm s)):=⟨λhp=>by
 refine aiE Tryz.func103 rfl ?_
 all_goals (repeat' ((try (conv=>whnf));first
  |refine aG ?_
  |refine ak ?_ ?_
  |(with_reducible refine aJ ?_)
  |(with_reducible refine aK ?_)
  |(with_reducible refine au (λ_=>?_) (λ_=>?_))
  |refine OnB.mk (λ_=>?_) (λ_=>?_)
  |(with_reducible refine tN ?_ ?_)
  |refine Ends.mk ?_))
 all_goals (try refine Pr.mk ?_)
 all_goals (try simp only [Option.getD_some,Option.getD_none,Int.toNat_natCast,Int.toNat_zero] at *)
 all_goals first
  |omega
  |(refine bE ?_;unfold Gm;rw [Bool.eq_iff_iff];simp_all;done)
  |(refine bE ?_;unfold Gm;rw [Bool.eq_iff_iff];simp_all;omega)⟩
instance ah5(a:Rat):DenI Tryz.prog 139 [R a] (rz a≤1000) (R (a*D8)):=⟨λhp=>by
 have i_a:RzB a 1000:=⟨hp⟩
 all_goals refine aiE Tryz.func139 rfl ?_
 all_goals (repeat' ((try (conv=>whnf));first
  |refine ak ?_ ?_
  |refine Drw.mk (by kernel_rfl) ?_
  |refine Ends.mk ?_))
 all_goals (try refine Pr.mk ?_)
 all_goals first
  |(have z1:=FQ;exact ⟨by omega,Nat.le_trans z1 (by decide)⟩)
  |omega
  |rfl⟩
instance Xr(a:Rat):DenI Tryz.prog 104 [R a] (rz a≤12) (.bool (Az a)):=⟨λhp=>by
 have z1:=U2;have z2:=ZN hp;have hv:=vU a
 all_goals refine aiE Tryz.func104 rfl ?_
 all_goals (repeat' ((try (conv=>whnf));first
  |refine ak ?_ ?_
  |(with_reducible refine aJ ?_)
  |(with_reducible refine aK ?_)
  |(with_reducible refine au (λ_=>?_) (λ_=>?_))
  |refine OnB.mk (λ_=>?_) (λ_=>?_)
  |refine Drw.mk (by kernel_rfl) ?_
  |refine Ends.mk ?_))
 all_goals (try refine Pr.mk ?_)
 all_goals (try simp only [dU] at *)
 all_goals first
  |(exfalso;rename (!iO _ _ _ _)=true=>h;rw [vU] at h;cases h)
  |omega
  |(refine ⟨?_, ?_⟩<;>first|(rw [jv];omega)|omega)
  |(have e1:(lim a.num.natAbs).length≤rz a:=iM a;have e2:(lim (a.den:Int).natAbs).length≤rz a:=iR a;omega)
  |(refine bE ?_;unfold Az;simp only [*,not_true,not_false_iff,decide_true,decide_false,Bool.true_and,Bool.false_and,Bool.and_false];done)
  |(refine bE ?_;unfold Az;have hng:(-a > ((10000000:Int):Rat))↔(a < -((10000000:Int):Rat)):=(by grind);simp_all;done)⟩
instance (priority:=50) Ye(r:Rq):DenI Tryz.prog 104 [.agg (QH r)] (CS r∧vR r=false) (.bool false):=⟨λhp=>by
 obtain ⟨hp1,hp2⟩:=hp;unfold vR at hp2;obtain ⟨hp3,hp4⟩:=hp1
 all_goals refine aiE Tryz.func104 rfl ?_
 all_goals (repeat' ((try (conv=>whnf));first
  |refine ak ?_ ?_
  |refine OnB.mk (λ_=>?_) (λ_=>?_)
  |refine Ends.mk ?_))
 all_goals (try refine Pr.mk ?_)
 all_goals first
  |omega
  |rfl
  |(exfalso;rename (!iO _ _ _ _)=false=>h;rw [hp2] at h;cases h)⟩
instance (priority:=2000) agB(r:Rq):DenI Tryz.prog 104 [.agg (QH r)] (CS r) (.bool (iq r)):=⟨λhp=>by
 cases v:vR r with
 |false =>
  have h:=(Ye r).den ⟨hp,v⟩;have e:iq r=false:=by unfold iq;rw [v];rfl
  rw [e];exact h
 |true =>
  have e:=xI v;have e2:iq r=Az (qR r):=by unfold iq;rw [v];rfl
  have hz:rz (qR r)≤12:=Ci (e ▸ hp);have h:=(Xr (qR r)).den hz;rw [e2];generalize qR r=q at e h;subst e
  exact h⟩
instance (priority:=2000) ahb(r:Rq):DenI Tryz.prog 21 [.agg (QH r)] (vR r=true) (.int .i64 (bI (qR r))):=⟨λv=>by
 have e:=xI v;have h:=(inferInstance:DenI Tryz.prog 21 [R (qR r)] _ (.int .i64 (bI (qR r)))).den trivial;generalize qR r=q at e h ⊢;subst e
 exact h⟩
instance (priority:=50) YG(ly:ByteArray)(pts:List (Rq × Rq))(rd:Rq):DenI Tryz.prog 68 [.agg [.v (.int .i64 1),.v (.string ly),.sl 8 (pts.map nZ),.v (.bool rd.a),bJ rd.l,.v (.bool rd.b),bJ rd.m]] (rE ⟨1,ly,pts,rd⟩) (.bool (kG ⟨1,ly,pts,rd⟩)):=⟨λhp=>by
 have hpl:pts.length≤5:=hp.2.2.1;have hpr:CS rd:=hp.2.1
 all_goals refine aiE Tryz.func68 rfl ?_
 all_goals (repeat' ((try (conv=>whnf));first
  |refine ak ?_ ?_
  |(with_reducible refine aJ ?_)
  |(with_reducible refine aK ?_)
  |(with_reducible refine au (λ_=>?_) (λ_=>?_))
  |(with_reducible refine bG (λ_=>?_) (λ_=>?_))
  |refine OnB.mk (λ_=>?_) (λ_=>?_)
  |refine Ends.mk ?_))
 all_goals (try refine Pr.mk ?_)
 all_goals first
  |((conv=>whnf);refine Sw.Loop.inv (α:=Nat) (λx=>[(1,.ptr 1 0),(3,.int .i64 2),(4,.int .i64 (x:Nat))]) (λx=>[(1,.var [.v (.int .i64 1),.v (.string ly),.sl 8 (pts.map nZ),.v (.bool rd.a),bJ rd.l,.v (.bool rd.b),bJ rd.m])]) (λx=>x≤pts.length∧∀j<x,(iq (pts.getD j ru).1 && iq (pts.getD j ru).2)=true) (λx=>pts.length-x) 0 ?_ ?_ ?_ (λx hx=>?_))
  |skip
 all_goals (repeat' ((try (conv=>whnf));first
  |refine ak ?_ ?_
  |(with_reducible refine aJ ?_)
  |(with_reducible refine aK ?_)
  |(with_reducible refine au (λ_=>?_) (λ_=>?_))
  |refine OnB.mk (λ_=>?_) (λ_=>?_)
  |refine aN ru ?_ ?_
  |refine Ends.mk ?_))
 all_goals (try refine Pr.mk ?_)
 all_goals (try simp only [List.length_map,Int.toNat_natCast] at *)
 all_goals (try simp only [dU] at *)
 all_goals first
  |(exfalso;omega)
  |omega
  |trivial
  |exact ⟨Nat.zero_le _,λj hj=>absurd hj (Nat.not_lt_zero _)⟩
  |exact (lT hp (by show _<pts.length;omega)).1
  |exact (lT hp (by show _<pts.length;omega)).2
  |((with_reducible show aB _=_);refine bE ?_;rw [nP (by simp only [];omega)];done)
  |((with_reducible show aB _=_);refine bE ?_;rw [uo (x:=x) (by show x<pts.length;omega) (by simp_all;done)];done)
  |((with_reducible show aB _=_);refine bE ?_;have hxx:x=pts.length:=(by omega);subst hxx;rw [pW (e:=⟨1,ly,pts,rd⟩) (.inl ⟨rfl,by show pts.length=2;omega⟩) hx.2];simp_all;done)
  |((conv=>whnf);exact ⟨x+1,⟨⟨rfl,rfl,aX (by omega),trivial⟩,⟨rfl,trivial⟩,⟨by omega,dN hx.2 (by simp_all;done)⟩,(by show pts.length-(x+1)<pts.length-x;omega)⟩⟩)⟩
instance (priority:=50) XH(ly:ByteArray)(pts:List (Rq × Rq))(rd:Rq):DenI Tryz.prog 68 [.agg [.v (.int .i64 2),.v (.string ly),.sl 8 (pts.map nZ),.v (.bool rd.a),bJ rd.l,.v (.bool rd.b),bJ rd.m]] (rE ⟨2,ly,pts,rd⟩) (.bool (kG ⟨2,ly,pts,rd⟩)):=⟨λhp=>by
 have hpl:pts.length≤5:=hp.2.2.1;have hpr:CS rd:=hp.2.1
 all_goals refine aiE Tryz.func68 rfl ?_
 all_goals (repeat' ((try (conv=>whnf));first
  |refine ak ?_ ?_
  |(with_reducible refine aJ ?_)
  |(with_reducible refine aK ?_)
  |(with_reducible refine au (λ_=>?_) (λ_=>?_))
  |(with_reducible refine bG (λ_=>?_) (λ_=>?_))
  |refine OnB.mk (λ_=>?_) (λ_=>?_)
  |refine Ends.mk ?_))
 all_goals (try refine Pr.mk ?_)
 all_goals first
  |((conv=>whnf);refine Sw.Loop.inv (α:=Nat) (λx=>[(1,.ptr 1 0),(3,.int .i64 3),(4,.int .i64 (x:Nat))]) (λx=>[(1,.var [.v (.int .i64 2),.v (.string ly),.sl 8 (pts.map nZ),.v (.bool rd.a),bJ rd.l,.v (.bool rd.b),bJ rd.m])]) (λx=>x≤pts.length∧∀j<x,(iq (pts.getD j ru).1 && iq (pts.getD j ru).2)=true) (λx=>pts.length-x) 0 ?_ ?_ ?_ (λx hx=>?_))
  |skip
 all_goals (repeat' ((try (conv=>whnf));first
  |refine ak ?_ ?_
  |(with_reducible refine aJ ?_)
  |(with_reducible refine aK ?_)
  |(with_reducible refine au (λ_=>?_) (λ_=>?_))
  |refine OnB.mk (λ_=>?_) (λ_=>?_)
  |refine aN ru ?_ ?_
  |refine Ends.mk ?_))
 all_goals (try refine Pr.mk ?_)
 all_goals (try simp only [List.length_map,Int.toNat_natCast] at *)
 all_goals (try simp only [dU] at *)
 all_goals first
  |(exfalso;omega)
  |omega
  |trivial
  |exact ⟨Nat.zero_le _,λj hj=>absurd hj (Nat.not_lt_zero _)⟩
  |exact (lT hp (by show _<pts.length;omega)).1
  |exact (lT hp (by show _<pts.length;omega)).2
  |((with_reducible show aB _=_);refine bE ?_;rw [nP (by simp only [];omega)];done)
  |((with_reducible show aB _=_);refine bE ?_;rw [uo (x:=x) (by show x<pts.length;omega) (by simp_all;done)];done)
  |((with_reducible show aB _=_);refine bE ?_;have hxx:x=pts.length:=(by omega);subst hxx;rw [pW (e:=⟨2,ly,pts,rd⟩) (.inr (.inl ⟨rfl,by show pts.length=3;omega⟩)) hx.2];simp_all;done)
  |((conv=>whnf);exact ⟨x+1,⟨⟨rfl,rfl,aX (by omega),trivial⟩,⟨rfl,trivial⟩,⟨by omega,dN hx.2 (by simp_all;done)⟩,(by show pts.length-(x+1)<pts.length-x;omega)⟩⟩)⟩
instance (priority:=50) Yd(ly:ByteArray)(pts:List (Rq × Rq))(rd:Rq):DenI Tryz.prog 68 [.agg [.v (.int .i64 3),.v (.string ly),.sl 8 (pts.map nZ),.v (.bool rd.a),bJ rd.l,.v (.bool rd.b),bJ rd.m]] (rE ⟨3,ly,pts,rd⟩) (.bool (kG ⟨3,ly,pts,rd⟩)):=⟨λhp=>by
 have hpl:pts.length≤5:=hp.2.2.1;have hpr:CS rd:=hp.2.1
 all_goals refine aiE Tryz.func68 rfl ?_
 all_goals (repeat' ((try (conv=>whnf));first
  |refine ak ?_ ?_
  |(with_reducible refine aJ ?_)
  |(with_reducible refine aK ?_)
  |(with_reducible refine au (λ_=>?_) (λ_=>?_))
  |(with_reducible refine bG (λ_=>?_) (λ_=>?_))
  |refine OnB.mk (λ_=>?_) (λ_=>?_)
  |refine Ends.mk ?_))
 all_goals (try refine Pr.mk ?_)
 all_goals first
  |((conv=>whnf);refine Sw.Loop.inv (α:=Nat) (λx=>[(1,.ptr 1 0),(3,.int .i64 1),(4,.int .i64 (x:Nat))]) (λx=>[(1,.var [.v (.int .i64 3),.v (.string ly),.sl 8 (pts.map nZ),.v (.bool rd.a),bJ rd.l,.v (.bool rd.b),bJ rd.m])]) (λx=>x≤pts.length∧∀j<x,(iq (pts.getD j ru).1 && iq (pts.getD j ru).2)=true) (λx=>pts.length-x) 0 ?_ ?_ ?_ (λx hx=>?_))
  |skip
 all_goals (repeat' ((try (conv=>whnf));first
  |refine ak ?_ ?_
  |(with_reducible refine aJ ?_)
  |(with_reducible refine aK ?_)
  |(with_reducible refine au (λ_=>?_) (λ_=>?_))
  |refine OnB.mk (λ_=>?_) (λ_=>?_)
  |refine aN ru ?_ ?_
  |refine Ends.mk ?_))
 all_goals (try refine Pr.mk ?_)
 all_goals (try simp only [List.length_map,Int.toNat_natCast] at *)
 all_goals (try simp only [dU] at *)
 all_goals first
  |(exfalso;omega)
  |omega
  |trivial
  |exact ⟨Nat.zero_le _,λj hj=>absurd hj (Nat.not_lt_zero _)⟩
  |exact (lT hp (by show _<pts.length;omega)).1
  |exact (lT hp (by show _<pts.length;omega)).2
  |exact Fz (by simp_all)
  |((with_reducible show aB _=_);refine bE ?_;rw [nP (by simp only [];omega)];done)
  |((with_reducible show aB _=_);refine bE ?_;rw [uo (x:=x) (by show x<pts.length;omega) (by simp_all;done)];done)
  |((with_reducible show aB _=_);refine bE ?_;rw [Yc rfl (by simp_all;done)];done)
  |((with_reducible show aB _=_);refine bE ?_;have hxx:x=pts.length:=(by omega);subst hxx;rw [pW (e:=⟨3,ly,pts,rd⟩) (.inr (.inr ⟨rfl,by show pts.length=1;omega⟩)) hx.2];simp_all;done)
  |((conv=>whnf);exact ⟨x+1,⟨⟨rfl,rfl,aX (by omega),trivial⟩,⟨rfl,trivial⟩,⟨by omega,dN hx.2 (by simp_all;done)⟩,(by show pts.length-(x+1)<pts.length-x;omega)⟩⟩)⟩
instance (priority:=50) Yv(kd:Int)(ly:ByteArray)(pts:List (Rq × Rq))(rd:Rq):DenI Tryz.prog 68 [.agg [.v (.int .i64 kd),.v (.string ly),.sl 8 (pts.map nZ),.v (.bool rd.a),bJ rd.l,.v (.bool rd.b),bJ rd.m]] (kd<1∨3<kd) (.bool (kG ⟨kd,ly,pts,rd⟩)):=⟨λhp=>by
 refine aiE Tryz.func68 rfl ?_
 all_goals (repeat' ((try (conv=>whnf));first
  |refine ak ?_ ?_
  |(with_reducible refine aJ ?_)
  |(with_reducible refine aK ?_)
  |(with_reducible refine au (λ_=>?_) (λ_=>?_))
  |(with_reducible refine bG (λ_=>?_) (λ_=>?_))
  |refine OnB.mk (λ_=>?_) (λ_=>?_)
  |refine Ends.mk ?_))
 all_goals (try refine Pr.mk ?_)
 all_goals first
  |(exfalso;omega)
  |((with_reducible show aB _=_);refine bE ?_;rw [nP (by simp only [];omega)];done)⟩
instance (priority:=2000) agV(e:EntR):DenI Tryz.prog 68 [.agg (dL e)] (rE e) (.bool (kG e)):=⟨λhp=>by
 obtain ⟨kd,ly,pts,rd⟩:=e;have hk:(kd<1∨3<kd)∨kd=1∨kd=2∨kd=3:=by omega
 rcases hk with hk|rfl|rfl|rfl
 ·exact (Yv kd ly pts rd).den hk
 ·exact (YG ly pts rd).den hp
 ·exact (XH ly pts rd).den hp
 ·exact (Yd ly pts rd).den hp⟩
instance agT(l:LayD):DenI Tryz.prog 66 [.agg (dB l)] (l.name.size≤1000000) (.bool (AA l)):=⟨λhp=>by
 refine aiE Tryz.func66 rfl ?_
 all_goals (repeat' ((try (conv=>whnf));first
  |refine ak ?_ ?_
  |(with_reducible refine aJ ?_)
  |(with_reducible refine aK ?_)
  |(with_reducible refine au (λ_=>?_) (λ_=>?_))
  |refine OnB.mk (λ_=>?_) (λ_=>?_)
  |refine Ends.mk ?_))
 all_goals (try refine Pr.mk ?_)
 all_goals first
  |omega
  |(refine bE ?_;unfold AA;rw [Bool.eq_iff_iff];simp_all;done)
  |(refine bE ?_;unfold AA;rw [Bool.eq_iff_iff];simp_all;omega)⟩
instance af4(ls:List LayD)(s:ByteArray):DenI Tryz.prog 67 [.c (.sl 3 (ls.map dB)),.c (.v (.string s))] (ls.length≤1000) (.int .i64 (oh ls s)):=⟨λhp=>by
 refine aiE Tryz.func67 rfl ?_
 all_goals first
  |((conv=>whnf);refine Sw.Loop.inv (α:=Nat) (λk=>[(0,.c (.sl 3 (ls.map dB))),(1,.c (.v (.string s))),(5,.int .i64 (k:Nat))]) (λk=>[]) (λk=>k≤ls.length∧∀j<k,eqS (ls.getD j L0).name s=false) (λk=>ls.length-k) 0 ?_ ?_ ?_ (λk hk=>?_))
 all_goals (repeat' ((try (conv=>whnf));first
  |(with_reducible refine au (λ_=>?_) (λ_=>?_))
  |refine OnB.mk (λ_=>?_) (λ_=>?_)
  |refine aN L0 ?_ ?_
  |refine Ends.mk ?_))
 all_goals (try refine Pr.mk ?_)
 all_goals (try simp only [List.length_map,Int.toNat_natCast] at *)
 all_goals first
  |omega
  |trivial
  |exact ⟨Nat.zero_le _,λj hj=>absurd hj (Nat.not_lt_zero _)⟩
  |((conv=>whnf);exact ⟨k+1,⟨⟨rfl,rfl,aX (by omega),trivial⟩,trivial,⟨by omega,dN hk.2 (by assumption)⟩,(by show ls.length-(k+1)<ls.length-k;omega)⟩⟩)
  |((with_reducible show aB _=_);rw [zI (x:=k) (by omega) hk.2 (by assumption)];rfl)
  |((with_reducible show aB _=_);have hxx:k=ls.length:=(by omega);subst hxx;rw [Ru hk.2];rfl)⟩
instance abh(ls:List LayD)(es:List EntR):DenI Tryz.prog 22 [.agg [(.sl 3 (ls.map dB)),.sl 7 (es.map dL)]] (ls.length≤1000∧es.length≤1000∧(∀l∈ls,l.name.size≤1000)∧∀e∈es,rE e) (.int .i64 (jf ls es)):=⟨λhp=>by
 obtain ⟨hp1,hp2,hp3,hp4⟩:=hp
 all_goals refine aiE Tryz.func22 rfl ?_
 all_goals (repeat' ((try (conv=>whnf));first
  |(with_reducible refine aJ ?_)
  |(with_reducible refine aK ?_)
  |(with_reducible refine au (λ_=>?_) (λ_=>?_))
  |refine Ends.mk ?_))
 all_goals (try simp only [List.length_map,Int.toNat_natCast] at *)
 all_goals first
  |((conv=>whnf);refine Sw.Loop.inv (α:=Nat) (λx=>[(1,.ptr 1 0),(3,.int .i64 (x:Nat))]) (λx=>[(1,.var [(.sl 3 (ls.map dB)),.sl 7 (es.map dL)])]) (λx=>x≤ls.length∧∀j<x,oP ls j=none) (λx=>ls.length-x) 0 ?_ ?_ ?_ (λx hx=>?_))
  |skip
 all_goals (repeat' ((try (conv=>whnf));first
  |refine ak ?_ ?_
  |(with_reducible refine au (λ_=>?_) (λ_=>?_))
  |refine OnB.mk (λ_=>?_) (λ_=>?_)
  |refine Drw.mk (by kernel_rfl) ?_
  |refine aN L0 ?_ ?_
  |refine Ends.mk ?_))
 all_goals (try refine Pr.mk ?_)
 all_goals (try simp only [List.length_map,Int.toNat_natCast] at *)
 all_goals first
  |((conv=>whnf);refine Sw.Loop.inv (α:=Nat) (λy=>[(1,.ptr 1 0),(4,.int .i64 (y:Nat))]) (λy=>[(1,.var [(.sl 3 (ls.map dB)),.sl 7 (es.map dL)])]) (λy=>y≤es.length∧∀j<y,nY ls es j=none) (λy=>es.length-y) 0 ?_ ?_ ?_ (λy hy=>?_))
  |skip
 all_goals (repeat' ((try (conv=>whnf));first
  |refine ak ?_ ?_
  |(with_reducible refine au (λ_=>?_) (λ_=>?_))
  |refine OnB.mk (λ_=>?_) (λ_=>?_)
  |refine Drw.mk (by kernel_rfl) ?_
  |refine aN rU ?_ ?_
  |refine Ends.mk ?_))
 all_goals (try refine Pr.mk ?_)
 all_goals (try simp only [List.length_map,Int.toNat_natCast] at *)
 all_goals first
  |omega
  |trivial
  |exact ⟨Nat.zero_le _,λj hj=>absurd hj (Nat.not_lt_zero _)⟩
  |(have z:=ZM hp3 x;omega)
  |exact ZA hp4 (by omega)
  |(refine iE ?_;rw [Oo (by omega)];done)
  |(refine iE ?_;rw [Fe (by omega) (by omega) hx.2 (acs (by assumption))];done)
  |(refine iE ?_;rw [Fe (by omega) (by omega) hx.2 (ab5 (by assumption) (by assumption))];done)
  |(refine iE ?_;have hxx:x=ls.length:=(by omega);subst hxx;rw [Fv (by omega) hx.2 (by omega) hy.2 (Z8 (by assumption))];done)
  |(refine iE ?_;have hxx:x=ls.length:=(by omega);subst hxx;rw [Fv (by omega) hx.2 (by omega) hy.2 (aaA (by assumption) (by assumption))];done)
  |(refine iE ?_;have hxx:x=ls.length:=(by omega);subst hxx;have hyy:y=es.length:=(by omega);subst hyy;rw [KQ (by omega) hx.2 hy.2];done)
  |((conv=>whnf);exact ⟨y+1,⟨⟨rfl,aX (by omega),trivial⟩,⟨rfl,trivial⟩,⟨by omega,dN hy.2 (Z9 (by assumption) (by assumption))⟩,(by show es.length-(y+1)<es.length-y;omega)⟩⟩)
  |((conv=>whnf);exact ⟨x+1,⟨⟨rfl,aX (by omega),trivial⟩,⟨rfl,trivial⟩,⟨by omega,dN hx.2 (aar (by assumption) (by assumption))⟩,(by show ls.length-(x+1)<ls.length-x;omega)⟩⟩)⟩
instance (priority:=2000) ae0(ls:List LayD)(es:List Ent):DenI Tryz.prog 22 [.agg [(.sl 3 (ls.map dB)),.sl 7 (es.map bZ)]] (ls.length≤1000∧es.length≤1000∧(∀l∈ls,l.name.size≤1000)∧∀e∈es,rE (fV e)) (.int .i64 (jf ls (es.map fV))):=⟨λ⟨h1,h2,h3,h4⟩=>by
 have h:=(abh ls (es.map fV)).den ⟨h1,by rw [List.length_map];exact h2,h3,λe he=>by obtain ⟨x,hx,rfl⟩:=List.mem_map.1 he;exact h4 x hx⟩;have e:(es.map fV).map dL=es.map bZ:=by rw [List.map_map];exact List.map_congr_left λe _=>U3 e
 rw [e] at h
 exact h⟩
instance Rf(e:Ent):DenI Tryz.prog 26 [.agg (bZ e)] (e.pts.length≤1000000) (CP e):=⟨λhp=>by
 refine aiE Tryz.func26 rfl ?_
 all_goals (repeat' ((try (conv=>whnf));first
  |(with_reducible refine aJ ?_)
  |(with_reducible refine aK ?_)
  |(with_reducible refine au (λ_=>?_) (λ_=>?_))
  |refine Drw.mk (by kernel_rfl) ?_
  |refine aN P0 ?_ ?_
  |refine Ends.mk ?_))
 all_goals (try refine Pr.mk ?_)
 all_goals (try simp only [List.length_map] at *)
 all_goals first
  |(exfalso;omega)
  |exact G9 (by omega) (by first|rfl|omega) (by first|rfl|omega)
  |exact NH (by omega)
  |omega⟩
instance (priority:=3000) afk(e:Ent):DenI Tryz.prog 26 [.agg (bZ e)] (e.pts.length≤1000000) (.tup [.c (.sl 8 ((aP e).map bn)),.bool (decide (aP e≠[]))]):=⟨λhp=>Rw rfl (by by_cases h:aP e=[]<;>simp [h]) ((Rf e).den hp)⟩
end Go.Proofs.YtmniihkenijjpaaGreatDoor
