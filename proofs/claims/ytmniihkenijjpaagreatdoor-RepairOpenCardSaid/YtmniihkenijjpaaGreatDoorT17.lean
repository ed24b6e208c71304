/-
  Rules of the abstract run, plain laws, and what functions answer, for the law RepairOpen.
  Conditions: none.
-/
import Derived.Test.YtmniihkenijjpaaGreatDoorT16
import Derived.Shelf.LaysM
import Derived.Shelf.Strconv.Itoa1
import Derived.Shelf.Strconv.Itoa2
import Derived.Lib.Walk
import Derived.Lib.ItoaMem
import Derived.Lib.ItoaLen
import Derived.Lib.AppendIntMem
import Derived.WalkKit
import Derived.BigCall
import Derived.BigGuard
import Derived.Shelf.Strings.Repeat
import Derived.Lib.Builder
import Derived.Shelf.Strings.Builder1
import Derived.Shelf.SlicesE.Clone
set_option linter.all false
namespace Go.Proofs.YtmniihkenijjpaaGreatDoor
open Go Go.RowKit Go.Sw Go.Shelf
set_option maxRecDepth 100000
set_option maxHeartbeats 8000000
set_option synthInstance.maxSize 4000
set_option synthInstance.maxHeartbeats 400000
instance al1(n:Nat):DenI Tryz.prog 254 [.int .i64 (n:Nat)] (n≤31) (Z (p10 n)):=⟨λhp=>by
 refine acs Tryz.func254 rfl ?_
 all_goals(repeat'((try(conv=>whnf));first
  |refine call_i ?_ ?_))
 all_goals(try refine Pr.mk ?_)
 all_goals first
  |((conv=>whnf);refine Sw.Loop.inv (α:=Nat) (λx=>[(2,.ptr 2 0),(3,.ptr 3 0),(4,.ptr 4 0),(7,.int .i64 (n:Nat)),(8,.int .i64 (x:Nat))]) (λx=>[(2,.var [.v (.bool false),.sl 1 []]),(3,.var [zs (p10 x),zl (p10 x)]),(4,.var [zs 10,zl 10])]) (λx=>x≤n∧True) (λx=>n-x) 0 ?_ ?_ ?_ (λx hx=>?_))|skip
 all_goals(repeat'((try(conv=>whnf));first
  |refine call_i ?_ ?_|(with_reducible refine onB_d (λ_=>?_) (λ_=>?_))|refine Ends.mk ?_))
 all_goals(try refine Pr.mk ?_)
 all_goals first|(show SubE _ _;repeat'(first|exact trivial|refine And.intro ?_ ?_))|(show SubB _ _;repeat'(first|exact trivial|refine And.intro ?_ ?_))|skip
 all_goals(try rfl)
 all_goals first
  |omega|exact⟨oW _,trivial⟩|exact⟨dh (DZ (by omega)) (by decide),dh (iL (n:=10) (by decide) (by decide)) (by decide)⟩|((with_reducible show packA _=_);have hxx:x=n:=(by omega);subst hxx;rfl)|((conv=>whnf);exact⟨x+1,⟨⟨rfl,rfl,rfl,rfl,aW (by omega),trivial⟩,⟨rfl,(by show some (Bk.var [zs (p10 x*10),zl (p10 x*10)])=some (Bk.var [zs (p10 (x+1)),zl (p10 (x+1))]);rw[CY]),rfl,trivial⟩,⟨by omega,trivial⟩,by show n-(x+1)<n-x;omega⟩⟩)⟩
instance alb(a:Rat)(n:Nat):DenI Tryz.prog 223 [R a,.int .i64 (n:Nat)] (rz a≤100∧n≤30) (R (aQ a n)):=⟨λhp=>by
 have z1:=Ic (n:=n) (by omega);have z2:=DZ (n:=n) (by omega)
 all_goals refine acs Tryz.func223 rfl ?_
 all_goals(repeat'((try(conv=>whnf));first
  |refine call_i ?_ ?_|refine call_c ?_ (λ_=>?_) (λ_=>?_)|refine Ends.mk ?_))
 all_goals(try refine Pr.mk ?_)
 all_goals(try simp only[am3]at *)
 all_goals first
  |rfl|omega|exact⟨dh z2 (by decide),dh (iL (n:=1) (by decide) (by decide)) (by decide)⟩|(refine⟨by omega, ?_⟩;have:=Vz (n:=n) (by omega);omega)⟩
instance alo(s:ByteArray):DenI Tryz.prog 225 [.str s] (s.size≤1000) (.tup [.str s,.bool true]):=⟨λhp=>by
 refine acs Tryz.func225 rfl ?_
 all_goals(repeat'((try(conv=>whnf));first
  |(with_reducible refine onB_d (λ_=>?_) (λ_=>?_))|refine Ends.mk ?_))
 all_goals first
  |rfl|(exfalso;omega)⟩
theorem afy{k:Nat}(hk:k≤40)(w:World):Calls Tryz.prog 256 #[.string ⟨#[48]⟩,.int .i64 k] w λe w'=>e=.returned (.string (qK k))∧Below w.heap.size w w':=by
 refine(Any.strings_Repeat VW acF ⟨#[48]⟩ k w (by omega) (by show 1*k≤_;omega)).mono ?_;rintro e w' ⟨rfl,hb⟩;refine⟨?_,hb⟩
 have:Lib.repeatL [(48:UInt8)] k=List.replicate k 48:=by
  have:∀k:Nat,k≤40→Lib.repeatL [(48:UInt8)] k=List.replicate k 48:=by decide +kernel
  exact this k hk
 rw[show(ByteArray.mk #[48]).data.toList=[(48:UInt8)]from rfl,this];rfl
instance ama(z:Int):DenI Tryz.prog 256 [.c (.v (.string ⟨#[48]⟩)),.c (.v (.int .i64 z))] (0≤z∧z≤40) (.c (.v (.string (qK z.toNat)))):=⟨λhp=>by
 obtain⟨n,rfl⟩:=Int.eq_ofNat_of_zero_le hp.1;refine Den.of ⟨by kernel_rfl,λw X vs hW hX hl hr=>?_⟩ rfl
 match vs,hl with
 |[u,v],_ =>
 have hu:u=.string ⟨#[48]⟩:=by
  have:=hr 0 u _ rfl rfl;cases this with
  |c h=>cases h;rfl
 have hv:v=.int .i64 (n:Nat):=by
  have:=hr 1 v _ rfl rfl;cases this with
  |c h=>cases h;rfl
 subst hu hv;refine Calls.mono (afy (k:=n) (by omega) w) ?_;rintro e w' ⟨rfl,hb⟩
 exact⟨_,rfl,(RepR.d (.c (.v _ rfl))).f,hb⟩⟩
instance al3(n:Int)(k:Nat):DenI Tryz.prog 224 [Z n,.int .i64 (k:Nat)] (sz n≤50∧k≤30) (.str (Tt n k)):=⟨λhp=>by
 have z0:=GU hp.1;have z1:=Gm n;have z2:=Ot hp.1 hp.2
 by_cases hn:n<0
 all_goals refine acs Tryz.func224 rfl ?_
 all_goals(repeat'((try(conv=>whnf));first
  |refine call_0 ?_|refine call_i ?_ ?_|(with_reducible refine onB_d (λ_=>?_) (λ_=>?_))|refine obl_i ?_ ?_|refine Drw.mk (by kernel_rfl) ?_|refine slp_i ?_ ?_|refine Ends.mk ?_))
 all_goals(try refine Pr.mk ?_)
 all_goals(try simp only[am3]at *)
 all_goals(try(exfalso;omega))
 all_goals(try simp only[Ad,MX,fU,aci hn]at *)
 all_goals(try simp only[Ad,MX,fU,acV hn]at *)
 all_goals(try simp(disch:=omega) only[bW]at *)
 all_goals(try(have hle:(qj n).size≤k:=(by omega);have hB:=ahE (n:=n) (k:=k) hle;simp only[hB]at *))
 all_goals(try(have hle:¬(qj n).size≤k:=(by omega);have hB:=acW (n:=n) (k:=k) hle))
 all_goals(try simp(disch:=omega) only[bW]at *)
 all_goals first
  |omega|(refine KT ?_;rw[acY (by omega)];unfold JC;first|rw[if_pos hn]|rw[if_neg hn])|(refine⟨by omega,by omega,by omega,by omega, ?_⟩;intro h;first|exact h|rfl|(cases h))|((with_reducible show(_:Nat)≤_);(try simp only[ZA,Zo,nP]);have e1:(ByteArray.mk #[45]).size=1:=rfl;have e2:(ByteArray.mk #[46]).size=1:=rfl;have e3:(ByteArray.mk #[]).size=0:=rfl;omega)|(refine KT ?_;rw[Yh (by omega),show((↑(Az n k).size:Int) - ↑k).toNat=(Az n k).size-k by omega];unfold JC;first|(rw[if_pos hn];rfl)|(rw[if_neg hn];rfl))|(refine KT ?_;rw[Yh (by omega),hB,show((↑(qj n).size:Int) - ↑k).toNat=(qj n).size-k by omega];unfold JC;first|(rw[if_pos hn];rfl)|(rw[if_neg hn];rfl))⟩
instance amk(x:Nat)(a:Rat):DenI Tryz.prog 200 [Z (p10 x),Z (a.den:Int)] (x≤31∧rz a≤1000) (.tup [Z ((p10 x).fdiv (a.den:Int)),Z ((10 ^ x % a.den:Nat):Int),.int .i64 0]):=⟨λhp=>by
 have h:=(inferInstance:DenI Tryz.prog 200 [Z (p10 x),Z (a.den:Int)] _ _).den (by exact⟨dh (DZ hp.1) (by decide),dh (am5 a) (by omega)⟩);rw[if_neg (amR a),if_neg (amR a),show(p10 x).fmod (a.den:Int)=((10^x%a.den:Nat):Int) by unfold p10;rw[Int.fmod_eq_emod_of_nonneg _ (by omega)];omega]at h
 exact h⟩
instance amx(a:Rat):DenI Tryz.prog 181 [R a] (rz a≤20) (.tup [.str (exS a),.bool (Zk a).isSome]):=⟨λhp=>by
 refine acs Tryz.func181 rfl ?_
 all_goals(repeat'((try(conv=>whnf));first
  |refine call_i ?_ ?_))
 all_goals(try refine Pr.mk ?_)
 all_goals first
  |((conv=>whnf);refine Sw.Loop.inv (α:=Nat) (λx=>[(1,.ptr 1 0),(5,.ptr 5 0),(6,.int .i64 (x:Nat))]) (λx=>[(1,.var (ratC a)),(5,.var [zs (p10 x),zl (p10 x)])]) (λx=>x≤31∧∀j<x,¬10^j%a.den=0) (λx=>31-x) 0 ?_ ?_ ?_ (λx hx=>?_))|skip
 all_goals(repeat'((try(conv=>whnf));first
  |refine call_0 ?_|refine call_i ?_ ?_|(with_reducible refine onB_d (λ_=>?_) (λ_=>?_))|refine Drw.mk (by kernel_rfl) ?_|refine Ends.mk ?_))
 all_goals(try refine Pr.mk ?_)
 all_goals first|(show SubE _ _;repeat'(first|exact trivial|refine And.intro ?_ ?_))|(show SubB _ _;repeat'(first|exact trivial|refine And.intro ?_ ?_))|skip
 all_goals(try rfl)
 all_goals(try simp only[am3]at *)
 all_goals first
  |omega|exact⟨oW _,λj hj=>absurd hj (Jr _)⟩|exact⟨dh (DZ (by omega)) (by decide),dh (iL (n:=10) (by decide) (by decide)) (by decide)⟩|((conv=>whnf);exact⟨x+1,⟨⟨rfl,rfl,aW (by omega),trivial⟩,⟨rfl,(by show some (Bk.var [zs (p10 x*10),zl (p10 x*10)])=some (Bk.var [zs (p10 (x+1)),zl (p10 (x+1))]);rw[CY]),trivial⟩,⟨by omega,dR hx.2 (by omega)⟩,by show 31-(x+1)<31-x;omega⟩⟩)|exact⟨OX hp (by omega),by omega⟩|exact WO (OX hp (by omega)) (by omega)|(have e:=Y6 (a:=a) (x:=x) (by omega) hx.2 (by omega);simp only[exS,e];rfl)|(have e:=acw (a:=a) (λj hj=>hx.2 j (by omega));simp only[exS,e];rfl)⟩
instance alA(c:Nat):DenI Tryz.prog 175 [.c (.v (.int .u8 (c:Nat)))] (True) (.bool (bJ c)):=⟨λhp=>by
 refine acs Tryz.func175 rfl ?_
 all_goals(repeat'((try(conv=>whnf));first
  |(with_reducible first|refine onB_t ?_|refine onB_f ?_|refine onB_d (λ_=>?_) (λ_=>?_))|refine Ends.mk ?_))
 all_goals first
  |(refine bE ?_;rw[Bf];simp only[bJ,H6,fC,decide_eq_true_eq,AB,iff_true,true_iff,iff_false,false_iff];omega)⟩
instance ak8(c:Nat):DenI Tryz.prog 220 [.c (.v (.int .u8 (c:Nat)))] (True) (.bool (uD c)):=⟨λhp=>by
 refine acs Tryz.func220 rfl ?_
 all_goals(repeat'((try(conv=>whnf));first
  |(with_reducible first|refine onB_t ?_|refine onB_f ?_|refine onB_d (λ_=>?_) (λ_=>?_))|refine Ends.mk ?_))
 all_goals first
  |(refine bE ?_;rw[Bf];simp only[uD,H6,fC,decide_eq_true_eq,AB,iff_true,true_iff,iff_false,false_iff];omega)⟩
instance akH(c:Nat):DenI Tryz.prog 177 [.c (.v (.int .u8 (c:Nat)))] (True) (.bool (UZ c)):=⟨λhp=>by
 refine acs Tryz.func177 rfl ?_
 all_goals(repeat'((try(conv=>whnf));first
  |refine call_0 ?_|(with_reducible first|refine onB_t ?_|refine onB_f ?_|refine onB_d (λ_=>?_) (λ_=>?_))|refine OnB.mk (λ_=>?_) (λ_=>?_)|refine Ends.mk ?_))
 all_goals first
  |(refine bE ?_;rw[Bf];simp only[UZ,H6,fC,decide_eq_true_eq,AB,iff_true,true_iff,iff_false,false_iff];omega)|(refine bE ?_;unfold UZ;simp_all;done)|(refine bE ?_;unfold UZ;simp only[*,G7];rw[Bf];simp only[H6,decide_eq_true_eq];omega)⟩
instance akT(s:ByteArray):DenI Tryz.prog 176 [.c (.v (.string s)),.int .i64 0,.c (.v (.func (.func 177) #[] #[]))] (s.size≤1000000) (.int .i64 (oN s:Nat)):=⟨λhp=>by
 refine acs Tryz.func176 rfl ?_
 all_goals first
  |((conv=>whnf);refine Sw.Loop.inv (α:=Nat) (λx=>[(0,.c (.v (.string s))),(1,.int .i64 (x:Nat)),(2,.c (.v (.func (.func 177) #[] #[])))]) (λx=>[]) (λx=>x≤s.size∧∀j<x,UZ ((pO s).getD j 0)=true) (λx=>s.size-x) 0 ?_ ?_ ?_ (λx hx=>?_))
 all_goals(repeat'((try(conv=>whnf));first
  |refine call_0 ?_|(with_reducible first|refine onB_t ?_|refine onB_f ?_|refine onB_d (λ_=>?_) (λ_=>?_))|refine OnB.mk (λ_=>?_) (λ_=>?_)|(with_reducible refine uZ ?_ ?_)|refine Ends.mk ?_))
 all_goals(try refine Pr.mk ?_)
 all_goals(try simp only[Ad,MX,fU,Vp]at *)
 all_goals first
  |omega|trivial|exact⟨oW _,λj hj=>absurd hj (Jr _)⟩|((conv=>whnf);exact⟨x+1,⟨⟨rfl,aW (by omega),rfl,trivial⟩,trivial,⟨by omega,dR hx.2 (by assumption)⟩,(by show s.size-(x+1)<s.size-x;omega)⟩⟩)|(refine iE ?_;rw[Vo hx.1 hx.2 (λh=>by first|assumption|omega)];done)⟩
instance akK(s:ByteArray):DenI Tryz.prog 132 [.c (.v (.string s))] (s.size≤1000000) (.bool (IE s)):=⟨λhp=>by
 refine acs Tryz.func132 rfl ?_
 all_goals(repeat'((try(conv=>whnf));first
  |refine call_0 ?_|refine call_i ?_ ?_|(with_reducible first|refine onB_t ?_|refine onB_f ?_|refine onB_d (λ_=>?_) (λ_=>?_))|refine OnB.mk (λ_=>?_) (λ_=>?_)|(with_reducible refine uZ ?_ ?_)|refine Ends.mk ?_))
 all_goals(try refine Pr.mk ?_)
 all_goals(try simp only[Ad,MX,fU,Vp]at *)
 all_goals first
  |omega|(have z:=Y1 (by assumption);omega)|(refine bE ?_;have z:=Y1 (by assumption);rw[adO z (by omega) (by assumption)];exact decide_eq_decide.2 (by omega))|(refine bE ?_;rw[aez (by first|exact .inl (ZX (by assumption))|exact .inr (.inl (by omega))|exact .inr (.inr (by assumption)))];done)⟩
instance akU(l:LayD):DenI Tryz.prog 100 [.agg (dI l)] (l.name.size≤1000000) (.bool (Du l)):=⟨λhp=>by
 refine acs Tryz.func100 rfl ?_
 all_goals(repeat'((try(conv=>whnf));first
  |refine call_i ?_ ?_|(with_reducible first|refine onB_t ?_|refine onB_f ?_|refine onB_d (λ_=>?_) (λ_=>?_))|refine OnB.mk (λ_=>?_) (λ_=>?_)|refine Ends.mk ?_))
 all_goals(try refine Pr.mk ?_)
 all_goals first
  |omega|(refine bE ?_;unfold Du;rw[Bf];simp_all;done)|(refine bE ?_;unfold Du;rw[Bf];simp_all;omega)⟩
instance akS(l:LayD)(s:ByteArray):DenI Tryz.prog 134 [.agg (dI l),.c (.p [.v (.string s)])] (True) (.bool (eqS l.name s)):=⟨λhp=>by
 refine acs Tryz.func134 rfl ?_
 all_goals(repeat'((try(conv=>whnf));first
  |refine Ends.mk ?_))
 all_goals first
  |rfl⟩
instance amh(ls:List LayD)(s:ByteArray):DenI Tryz.prog 133 [.c (.sl 3 (ls.map dI)),.c (.fn 134 [.p [.v (.string s)]])] (ls.length≤1000) (.int .i64 (sG ls s)):=⟨λhp=>by
 refine acs Tryz.func133 rfl ?_
 all_goals first
  |((conv=>whnf);refine Sw.Loop.inv (α:=Nat) (λk=>[(0,.c (.sl 3 (ls.map dI))),(1,.c (.fn 134 [.p [.v (.string s)]])),(6,.c (.sl 3 (ls.map dI))),(7,.int .i64 (ls.length:Nat)),(8,.int .i64 (k:Nat))]) (λk=>[]) (λk=>k≤ls.length∧∀j<k,eqS (ls.getD j L0).name s=false) (λk=>ls.length-k) 0 ?_ ?_ ?_ (λk hk=>?_))
 all_goals(repeat'((try(conv=>whnf));first
  |refine call_0 ?_|(with_reducible refine onB_d (λ_=>?_) (λ_=>?_))|refine OnB.mk (λ_=>?_) (λ_=>?_)|refine elem_map L0 ?_ ?_|refine Ends.mk ?_))
 all_goals(try refine Pr.mk ?_)
 all_goals(try simp only[bK,fU]at *)
 all_goals first
  |omega|trivial|exact⟨oW _,λj hj=>absurd hj (Jr _)⟩|((conv=>whnf);exact⟨k+1,⟨⟨rfl,rfl,rfl,rfl,aW (by omega),trivial⟩,trivial,⟨by omega,dR hk.2 (by assumption)⟩,(by show ls.length-(k+1)<ls.length-k;omega)⟩⟩)|((with_reducible show packA _=_);rw[A8 (x:=k) (by omega) hk.2 (by assumption)];rfl)|((with_reducible show packA _=_);have hxx:k=ls.length:=(by omega);subst hxx;rw[Xo hk.2];rfl)⟩
instance akQ(ls:List LayD)(s:ByteArray):DenI Tryz.prog 101 [.c (.sl 3 (ls.map dI)),.c (.v (.string s))] (ls.length≤1000) (.int .i64 (sG ls s)):=⟨λhp=>by
 refine acs Tryz.func101 rfl ?_
 all_goals(repeat'((try(conv=>whnf));first
  |refine call_i ?_ ?_|refine Ends.mk ?_))
 all_goals(try refine Pr.mk ?_)
 all_goals first
  |omega|rfl⟩
instance amI(a:Rat):DenI Tryz.prog 182 [R a] (rz a≤1000) (R (a*Gp)):=⟨λhp=>by
 have i_a:RzB a 1000:=⟨hp⟩
 all_goals refine acs Tryz.func182 rfl ?_
 all_goals(repeat'((try(conv=>whnf));first
  |refine call_i ?_ ?_|refine Drw.mk (by kernel_rfl) ?_|refine Ends.mk ?_))
 all_goals(try refine Pr.mk ?_)
 all_goals first
  |(have z1:=HY;exact⟨by omega,dh z1 (by decide)⟩)|omega|rfl⟩
instance adG(a:Rat):DenI Tryz.prog 135 [R a] (rz a≤12) (.bool (MP a)):=⟨λhp=>by
 have z1:=Ya;have z2:=acG hp;have hv:=xH a
 all_goals refine acs Tryz.func135 rfl ?_
 all_goals(repeat'((try(conv=>whnf));first
  |refine call_i ?_ ?_|(with_reducible first|refine onB_t ?_|refine onB_f ?_|refine onB_d (λ_=>?_) (λ_=>?_))|refine OnB.mk (λ_=>?_) (λ_=>?_)|refine Drw.mk (by kernel_rfl) ?_|refine Ends.mk ?_))
 all_goals(try refine Pr.mk ?_)
 all_goals(try simp only[am3]at *)
 all_goals first
  |(exfalso;rename (!ana _ _ _ _)=true=>h;rw[xH]at h;cases h)|omega|(refine⟨?_, ?_⟩<;>first|(rw[am6];omega)|omega)|(have e1:(lim a.num.natAbs).length≤rz a:=am4 a;have e2:(lim (a.den:Int).natAbs).length≤rz a:=am5 a;omega)|(refine bE ?_;unfold MP;simp only[*,not_true,not_false_iff,decide_true,decide_false,KP,aB,Bool.and_false];done)⟩
instance(priority:=50) afe(r:Rq):DenI Tryz.prog 135 [.agg (bD r)] (Ip r∧vR r=false) (.bool false):=⟨λhp=>by
 obtain⟨hp1,hp2⟩:=hp;unfold vR at hp2;obtain⟨hp3,hp4⟩:=hp1
 all_goals refine acs Tryz.func135 rfl ?_
 all_goals(repeat'((try(conv=>whnf));first
  |refine call_0 ?_|refine call_i ?_ ?_|refine call_c ?_ (λ_=>?_) (λ_=>?_)|(with_reducible first|refine onB_t ?_|refine onB_f ?_|refine onB_d (λ_=>?_) (λ_=>?_)|refine onB_n (λ_=>?_) (λ_=>?_))|refine OnB.mk (λ_=>?_) (λ_=>?_)|refine obl_i ?_ ?_|refine Drw.mk (by kernel_rfl) ?_|refine mks_i ?_ ?_|refine slp_i ?_ ?_|(with_reducible first|refine elem_u ?_ ?_|refine elem_0 ?_|refine elem_1 ?_)|refine Ends.mk ?_))
 all_goals(try refine Pr.mk ?_)
 all_goals first
  |omega|rfl|(exfalso;rename (!ana _ _ _ _)=false=>h;rw[hp2]at h;cases h)|exact⟨by omega,by omega⟩|skip⟩
instance(priority:=2000) x_len(r:Rq):DenI Tryz.prog 135 [.agg (bD r)] (Ip r) (.bool (iY r)):=⟨λhp=>by
 cases v:vR r with
 |false =>
  have h:=(afe r).den ⟨hp,v⟩;have e:iY r=false:=by unfold iY;rw[v];rfl
  rw[e];exact h
 |true =>
  have e:=En v;have e2:iY r=MP (qR r):=by unfold iY;rw[v];rfl
  have hz:rz (qR r)≤12:=D6 (e▸hp);have h:=(adG (qR r)).den hz;rw[e2];generalize qR r=q at e h;subst e
  exact h⟩
instance(priority:=2000) akL(r:Rq):DenI Tryz.prog 49 [.agg (bD r)] (vR r=true) (.int .i64 (anf (qR r))):=⟨λv=>by
 have e:=En v;have h:=(inferInstance:DenI Tryz.prog 49 [R (qR r)] _ (.int .i64 (anf (qR r)))).den trivial;generalize qR r=q at e h ⊢;subst e
 exact h⟩
instance(priority:=50) ads(ly:ByteArray)(pts:List (Rq × Rq))(rd:Rq):DenI Tryz.prog 102 [.agg [.v (.int .i64 1),.v (.string ly),.sl 8 (pts.map pV),.v (.bool rd.a),lmc rd.l,.v (.bool rd.b),lmc rd.m]] (pJ ⟨1,ly,pts,rd⟩) (.bool (nH ⟨1,ly,pts,rd⟩)):=⟨λhp=>by
 have hpl:pts.length≤5:=hp.2.2.1;have hpr:Ip rd:=hp.2.1
 all_goals refine acs Tryz.func102 rfl ?_
 all_goals(repeat'((try(conv=>whnf));first
  |refine call_0 ?_|refine call_i ?_ ?_|refine call_c ?_ (λ_=>?_) (λ_=>?_)|(with_reducible first|refine onB_t ?_|refine onB_f ?_|refine onB_d (λ_=>?_) (λ_=>?_)|refine onB_n (λ_=>?_) (λ_=>?_))|refine OnB.mk (λ_=>?_) (λ_=>?_)|refine obl_i ?_ ?_|refine Drw.mk (by kernel_rfl) ?_|refine mks_i ?_ ?_|refine slp_i ?_ ?_|(with_reducible first|refine elem_u ?_ ?_|refine elem_0 ?_|refine elem_1 ?_)|refine elem_map sD ?_ ?_|refine Ends.mk ?_))
 all_goals(try refine Pr.mk ?_)
 all_goals first
  |((conv=>whnf);refine Sw.Loop.inv (α:=Nat) (λx=>[(1,.ptr 1 0),(25,.c (.sl 8 (pts.map pV))),(26,.int .i64 (pts.length:Nat)),(27,.int .i64 (x:Nat))]) (λx=>[(1,.var [.v (.int .i64 1),.v (.string ly),.sl 8 (pts.map pV),.v (.bool rd.a),lmc rd.l,.v (.bool rd.b),lmc rd.m])]) (λx=>x≤pts.length∧∀j<x,(iY (pts.getD j sD).1&&iY (pts.getD j sD).2)=true) (λx=>pts.length-x) 0 ?_ ?_ ?_ (λx hx=>?_))|skip
 all_goals(repeat'((try(conv=>whnf));first
  |refine call_0 ?_|refine call_i ?_ ?_|refine call_c ?_ (λ_=>?_) (λ_=>?_)|(with_reducible first|refine onB_t ?_|refine onB_f ?_|refine onB_d (λ_=>?_) (λ_=>?_)|refine onB_n (λ_=>?_) (λ_=>?_))|refine OnB.mk (λ_=>?_) (λ_=>?_)|refine obl_i ?_ ?_|refine Drw.mk (by kernel_rfl) ?_|refine mks_i ?_ ?_|refine slp_i ?_ ?_|(with_reducible first|refine elem_u ?_ ?_|refine elem_0 ?_|refine elem_1 ?_)|refine elem_map sD ?_ ?_|refine Ends.mk ?_))
 all_goals(try refine Pr.mk ?_)
 all_goals(try simp only[bK,fU]at *)
 all_goals(try simp only[am3]at *)
 all_goals first
  |(exfalso;omega)|omega|trivial|exact⟨oW _,λj hj=>absurd hj (Jr _)⟩|exact(ng hp (by show _<pts.length;omega)).1|exact(ng hp (by show _<pts.length;omega)).2|exact hpr|exact Jg (by assumption)|exact⟨rfl,rfl,by simp only[bK];rfl,rfl,trivial⟩|((with_reducible show packA _=_);refine bE ?_;rw[o9 (by simp only[];omega)];done)|((with_reducible show packA _=_);refine bE ?_;rw[vG (x:=x) (by show x<pts.length;omega) (by simp_all;done)];done)|((with_reducible show packA _=_);refine bE ?_;have hxx:x=pts.length:=(by omega);subst hxx;rw[qx (e:=⟨1,ly,pts,rd⟩) (.inl ⟨rfl,by show pts.length=2;omega⟩) hx.2];simp_all;done)|((conv=>whnf);exact⟨x+1,⟨⟨rfl,rfl,rfl,aW (by omega),trivial⟩,⟨rfl,trivial⟩,⟨by omega,dR hx.2 (by simp_all;done)⟩,(by show pts.length-(x+1)<pts.length-x;omega)⟩⟩)|skip⟩
instance(priority:=50) aeB(ly:ByteArray)(pts:List (Rq × Rq))(rd:Rq):DenI Tryz.prog 102 [.agg [.v (.int .i64 2),.v (.string ly),.sl 8 (pts.map pV),.v (.bool rd.a),lmc rd.l,.v (.bool rd.b),lmc rd.m]] (pJ ⟨2,ly,pts,rd⟩) (.bool (nH ⟨2,ly,pts,rd⟩)):=⟨λhp=>by
 have hpl:pts.length≤5:=hp.2.2.1;have hpr:Ip rd:=hp.2.1
 all_goals refine acs Tryz.func102 rfl ?_
 all_goals(repeat'((try(conv=>whnf));first
  |refine call_0 ?_|refine call_i ?_ ?_|refine call_c ?_ (λ_=>?_) (λ_=>?_)|(with_reducible first|refine onB_t ?_|refine onB_f ?_|refine onB_d (λ_=>?_) (λ_=>?_)|refine onB_n (λ_=>?_) (λ_=>?_))|refine OnB.mk (λ_=>?_) (λ_=>?_)|refine obl_i ?_ ?_|refine Drw.mk (by kernel_rfl) ?_|refine mks_i ?_ ?_|refine slp_i ?_ ?_|(with_reducible first|refine elem_u ?_ ?_|refine elem_0 ?_|refine elem_1 ?_)|refine elem_map sD ?_ ?_|refine Ends.mk ?_))
 all_goals(try refine Pr.mk ?_)
 all_goals first
  |((conv=>whnf);refine Sw.Loop.inv (α:=Nat) (λx=>[(1,.ptr 1 0),(25,.c (.sl 8 (pts.map pV))),(26,.int .i64 (pts.length:Nat)),(27,.int .i64 (x:Nat))]) (λx=>[(1,.var [.v (.int .i64 2),.v (.string ly),.sl 8 (pts.map pV),.v (.bool rd.a),lmc rd.l,.v (.bool rd.b),lmc rd.m])]) (λx=>x≤pts.length∧∀j<x,(iY (pts.getD j sD).1&&iY (pts.getD j sD).2)=true) (λx=>pts.length-x) 0 ?_ ?_ ?_ (λx hx=>?_))|skip
 all_goals(repeat'((try(conv=>whnf));first
  |refine call_0 ?_|refine call_i ?_ ?_|refine call_c ?_ (λ_=>?_) (λ_=>?_)|(with_reducible first|refine onB_t ?_|refine onB_f ?_|refine onB_d (λ_=>?_) (λ_=>?_)|refine onB_n (λ_=>?_) (λ_=>?_))|refine OnB.mk (λ_=>?_) (λ_=>?_)|refine obl_i ?_ ?_|refine Drw.mk (by kernel_rfl) ?_|refine mks_i ?_ ?_|refine slp_i ?_ ?_|(with_reducible first|refine elem_u ?_ ?_|refine elem_0 ?_|refine elem_1 ?_)|refine elem_map sD ?_ ?_|refine Ends.mk ?_))
 all_goals(try refine Pr.mk ?_)
 all_goals(try simp only[bK,fU]at *)
 all_goals(try simp only[am3]at *)
 all_goals first
  |(exfalso;omega)|omega|trivial|exact⟨oW _,λj hj=>absurd hj (Jr _)⟩|exact(ng hp (by show _<pts.length;omega)).1|exact(ng hp (by show _<pts.length;omega)).2|exact hpr|exact Jg (by assumption)|exact⟨rfl,rfl,by simp only[bK];rfl,rfl,trivial⟩|((with_reducible show packA _=_);refine bE ?_;rw[o9 (by simp only[];omega)];done)|((with_reducible show packA _=_);refine bE ?_;rw[vG (x:=x) (by show x<pts.length;omega) (by simp_all;done)];done)|((with_reducible show packA _=_);refine bE ?_;have hxx:x=pts.length:=(by omega);subst hxx;rw[qx (e:=⟨2,ly,pts,rd⟩) (.inr (.inl ⟨rfl,by show pts.length=3;omega⟩)) hx.2];simp_all;done)|((conv=>whnf);exact⟨x+1,⟨⟨rfl,rfl,rfl,aW (by omega),trivial⟩,⟨rfl,trivial⟩,⟨by omega,dR hx.2 (by simp_all;done)⟩,(by show pts.length-(x+1)<pts.length-x;omega)⟩⟩)|skip⟩
instance(priority:=50) aeO(ly:ByteArray)(pts:List (Rq × Rq))(rd:Rq):DenI Tryz.prog 102 [.agg [.v (.int .i64 3),.v (.string ly),.sl 8 (pts.map pV),.v (.bool rd.a),lmc rd.l,.v (.bool rd.b),lmc rd.m]] (pJ ⟨3,ly,pts,rd⟩) (.bool (nH ⟨3,ly,pts,rd⟩)):=⟨λhp=>by
 have hpl:pts.length≤5:=hp.2.2.1;have hpr:Ip rd:=hp.2.1
 all_goals refine acs Tryz.func102 rfl ?_
 all_goals(repeat'((try(conv=>whnf));first
  |refine call_0 ?_|refine call_i ?_ ?_|refine call_c ?_ (λ_=>?_) (λ_=>?_)|(with_reducible first|refine onB_t ?_|refine onB_f ?_|refine onB_d (λ_=>?_) (λ_=>?_)|refine onB_n (λ_=>?_) (λ_=>?_))|refine OnB.mk (λ_=>?_) (λ_=>?_)|refine obl_i ?_ ?_|refine Drw.mk (by kernel_rfl) ?_|refine mks_i ?_ ?_|refine slp_i ?_ ?_|(with_reducible first|refine elem_u ?_ ?_|refine elem_0 ?_|refine elem_1 ?_)|refine elem_map sD ?_ ?_|refine Ends.mk ?_))
 all_goals(try refine Pr.mk ?_)
 all_goals first
  |((conv=>whnf);refine Sw.Loop.inv (α:=Nat) (λx=>[(1,.ptr 1 0),(25,.c (.sl 8 (pts.map pV))),(26,.int .i64 (pts.length:Nat)),(27,.int .i64 (x:Nat))]) (λx=>[(1,.var [.v (.int .i64 3),.v (.string ly),.sl 8 (pts.map pV),.v (.bool rd.a),lmc rd.l,.v (.bool rd.b),lmc rd.m])]) (λx=>x≤pts.length∧∀j<x,(iY (pts.getD j sD).1&&iY (pts.getD j sD).2)=true) (λx=>pts.length-x) 0 ?_ ?_ ?_ (λx hx=>?_))|skip
 all_goals(repeat'((try(conv=>whnf));first
  |refine call_0 ?_|refine call_i ?_ ?_|refine call_c ?_ (λ_=>?_) (λ_=>?_)|(with_reducible first|refine onB_t ?_|refine onB_f ?_|refine onB_d (λ_=>?_) (λ_=>?_)|refine onB_n (λ_=>?_) (λ_=>?_))|refine OnB.mk (λ_=>?_) (λ_=>?_)|refine obl_i ?_ ?_|refine Drw.mk (by kernel_rfl) ?_|refine mks_i ?_ ?_|refine slp_i ?_ ?_|(with_reducible first|refine elem_u ?_ ?_|refine elem_0 ?_|refine elem_1 ?_)|refine elem_map sD ?_ ?_|refine Ends.mk ?_))
 all_goals(try refine Pr.mk ?_)
 all_goals(try simp only[bK,fU]at *)
 all_goals(try simp only[am3]at *)
 all_goals first
  |(exfalso;omega)|omega|trivial|exact⟨oW _,λj hj=>absurd hj (Jr _)⟩|exact(ng hp (by show _<pts.length;omega)).1|exact(ng hp (by show _<pts.length;omega)).2|exact hpr|exact Jg (by assumption)|exact⟨rfl,rfl,by simp only[bK];rfl,rfl,trivial⟩|((with_reducible show packA _=_);refine bE ?_;rw[o9 (by simp only[];omega)];done)|((with_reducible show packA _=_);refine bE ?_;rw[vG (x:=x) (by show x<pts.length;omega) (by simp_all;done)];done)|((with_reducible show packA _=_);refine bE ?_;have hxx:x=pts.length:=(by omega);subst hxx;rw[qx (e:=⟨3,ly,pts,rd⟩) (.inr (.inr ⟨rfl,by show pts.length=1;omega⟩)) hx.2];simp_all;done)|((conv=>whnf);exact⟨x+1,⟨⟨rfl,rfl,rfl,aW (by omega),trivial⟩,⟨rfl,trivial⟩,⟨by omega,dR hx.2 (by simp_all;done)⟩,(by show pts.length-(x+1)<pts.length-x;omega)⟩⟩)|skip⟩
instance(priority:=50) aeh(kd:Int)(ly:ByteArray)(pts:List (Rq × Rq))(rd:Rq):DenI Tryz.prog 102 [.agg [.v (.int .i64 kd),.v (.string ly),.sl 8 (pts.map pV),.v (.bool rd.a),lmc rd.l,.v (.bool rd.b),lmc rd.m]] (kd<1∨3<kd) (.bool (nH ⟨kd,ly,pts,rd⟩)):=⟨λhp=>by
 refine acs Tryz.func102 rfl ?_
 all_goals(repeat'((try(conv=>whnf));first
  |refine call_0 ?_|refine call_i ?_ ?_|refine call_c ?_ (λ_=>?_) (λ_=>?_)|(with_reducible first|refine onB_t ?_|refine onB_f ?_|refine onB_d (λ_=>?_) (λ_=>?_)|refine onB_n (λ_=>?_) (λ_=>?_))|refine OnB.mk (λ_=>?_) (λ_=>?_)|refine obl_i ?_ ?_|refine Drw.mk (by kernel_rfl) ?_|refine mks_i ?_ ?_|refine slp_i ?_ ?_|(with_reducible first|refine elem_u ?_ ?_|refine elem_0 ?_|refine elem_1 ?_)|refine Ends.mk ?_))
 all_goals(try refine Pr.mk ?_)
 all_goals first
  |(exfalso;omega)|((with_reducible show packA _=_);refine bE ?_;rw[o9 (by simp only[];omega)];done)|skip⟩
instance(priority:=2000) alq(e:EntR):DenI Tryz.prog 102 [.agg (dP e)] (pJ e) (.bool (nH e)):=⟨λhp=>by
 obtain⟨kd,ly,pts,rd⟩:=e;have hk:(kd<1∨3<kd)∨kd=1∨kd=2∨kd=3:=by omega
 rcases hk with hk|rfl|rfl|rfl
 ·exact(aeh kd ly pts rd).den hk
 ·exact(ads ly pts rd).den hp
 ·exact(aeB ly pts rd).den hp
 ·exact(aeO ly pts rd).den hp⟩
instance ali(a:Rat):DenI Tryz.prog 139 [R a] (rz a≤1000) (R (a*Gp)):=⟨λhp=>by
 have i_a:RzB a 1000:=⟨hp⟩
 all_goals refine acs Tryz.func139 rfl ?_
 all_goals(repeat'((try(conv=>whnf));first
  |refine call_i ?_ ?_|refine Drw.mk (by kernel_rfl) ?_|refine Ends.mk ?_))
 all_goals(try refine Pr.mk ?_)
 all_goals first
  |(have z1:=HY;exact⟨by omega,dh z1 (by decide)⟩)|omega|rfl⟩
instance abU(a:Rat):DenI Tryz.prog 104 [R a] (rz a≤12) (.bool (MP a)):=⟨λhp=>by
 have z1:=Ya;have z2:=acG hp;have hv:=xH a
 all_goals refine acs Tryz.func104 rfl ?_
 all_goals(repeat'((try(conv=>whnf));first
  |refine call_i ?_ ?_|(with_reducible first|refine onB_t ?_|refine onB_f ?_|refine onB_d (λ_=>?_) (λ_=>?_))|refine OnB.mk (λ_=>?_) (λ_=>?_)|refine Drw.mk (by kernel_rfl) ?_|refine Ends.mk ?_))
 all_goals(try refine Pr.mk ?_)
 all_goals(try simp only[am3]at *)
 all_goals first
  |(exfalso;rename (!ana _ _ _ _)=true=>h;rw[xH]at h;cases h)|omega|(refine⟨?_, ?_⟩<;>first|(rw[am6];omega)|omega)|(have e1:(lim a.num.natAbs).length≤rz a:=am4 a;have e2:(lim (a.den:Int).natAbs).length≤rz a:=am5 a;omega)|(refine bE ?_;unfold MP;simp only[*,not_true,not_false_iff,decide_true,decide_false,KP,aB,Bool.and_false];done)|(refine bE ?_;unfold MP;have hng:(-a>((10000000:Int):Rat))↔(a < -((10000000:Int):Rat)):=(by grind);simp_all;done)⟩
instance(priority:=50) abo(r:Rq):DenI Tryz.prog 104 [.agg (bD r)] (Ip r∧vR r=false) (.bool false):=⟨λhp=>by
 obtain⟨hp1,hp2⟩:=hp;unfold vR at hp2;obtain⟨hp3,hp4⟩:=hp1
 all_goals refine acs Tryz.func104 rfl ?_
 all_goals(repeat'((try(conv=>whnf));first
  |refine call_i ?_ ?_|refine OnB.mk (λ_=>?_) (λ_=>?_)|refine Ends.mk ?_))
 all_goals(try refine Pr.mk ?_)
 all_goals first
  |omega|rfl|(exfalso;rename (!ana _ _ _ _)=false=>h;rw[hp2]at h;cases h)⟩
instance(priority:=2000) aj7(r:Rq):DenI Tryz.prog 104 [.agg (bD r)] (Ip r) (.bool (iY r)):=⟨λhp=>by
 cases v:vR r with
 |false =>
  have h:=(abo r).den ⟨hp,v⟩;have e:iY r=false:=by unfold iY;rw[v];rfl
  rw[e];exact h
 |true =>
  have e:=En v;have e2:iY r=MP (qR r):=by unfold iY;rw[v];rfl
  have hz:rz (qR r)≤12:=D6 (e▸hp);have h:=(abU (qR r)).den hz;rw[e2];generalize qR r=q at e h;subst e
  exact h⟩
instance(priority:=2000) akj(r:Rq):DenI Tryz.prog 21 [.agg (bD r)] (vR r=true) (.int .i64 (anf (qR r))):=⟨λv=>by
 have e:=En v;have h:=(inferInstance:DenI Tryz.prog 21 [R (qR r)] _ (.int .i64 (anf (qR r)))).den trivial;generalize qR r=q at e h ⊢;subst e
 exact h⟩
instance(priority:=50) aa3(ly:ByteArray)(pts:List (Rq × Rq))(rd:Rq):DenI Tryz.prog 68 [.agg [.v (.int .i64 1),.v (.string ly),.sl 8 (pts.map pV),.v (.bool rd.a),lmc rd.l,.v (.bool rd.b),lmc rd.m]] (pJ ⟨1,ly,pts,rd⟩) (.bool (nH ⟨1,ly,pts,rd⟩)):=⟨λhp=>by
 have hpl:pts.length≤5:=hp.2.2.1;have hpr:Ip rd:=hp.2.1
 all_goals refine acs Tryz.func68 rfl ?_
 all_goals(repeat'((try(conv=>whnf));first
  |refine call_i ?_ ?_|(with_reducible first|refine onB_t ?_|refine onB_f ?_|refine onB_d (λ_=>?_) (λ_=>?_)|refine onB_n (λ_=>?_) (λ_=>?_))|refine OnB.mk (λ_=>?_) (λ_=>?_)|refine Ends.mk ?_))
 all_goals(try refine Pr.mk ?_)
 all_goals first
  |((conv=>whnf);refine Sw.Loop.inv (α:=Nat) (λx=>[(1,.ptr 1 0),(3,.int .i64 2),(4,.int .i64 (x:Nat))]) (λx=>[(1,.var [.v (.int .i64 1),.v (.string ly),.sl 8 (pts.map pV),.v (.bool rd.a),lmc rd.l,.v (.bool rd.b),lmc rd.m])]) (λx=>x≤pts.length∧∀j<x,(iY (pts.getD j sD).1&&iY (pts.getD j sD).2)=true) (λx=>pts.length-x) 0 ?_ ?_ ?_ (λx hx=>?_))|skip
 all_goals(repeat'((try(conv=>whnf));first
  |refine call_i ?_ ?_|(with_reducible first|refine onB_t ?_|refine onB_f ?_|refine onB_d (λ_=>?_) (λ_=>?_))|refine OnB.mk (λ_=>?_) (λ_=>?_)|refine elem_map sD ?_ ?_|refine Ends.mk ?_))
 all_goals(try refine Pr.mk ?_)
 all_goals(try simp only[bK,fU]at *)
 all_goals(try simp only[am3]at *)
 all_goals first
  |(exfalso;omega)|omega|trivial|exact⟨oW _,λj hj=>absurd hj (Jr _)⟩|exact(ng hp (by show _<pts.length;omega)).1|exact(ng hp (by show _<pts.length;omega)).2|((with_reducible show packA _=_);refine bE ?_;rw[o9 (by simp only[];omega)];done)|((with_reducible show packA _=_);refine bE ?_;rw[vG (x:=x) (by show x<pts.length;omega) (by simp_all;done)];done)|((with_reducible show packA _=_);refine bE ?_;have hxx:x=pts.length:=(by omega);subst hxx;rw[qx (e:=⟨1,ly,pts,rd⟩) (.inl ⟨rfl,by show pts.length=2;omega⟩) hx.2];simp_all;done)|((conv=>whnf);exact⟨x+1,⟨⟨rfl,rfl,aW (by omega),trivial⟩,⟨rfl,trivial⟩,⟨by omega,dR hx.2 (by simp_all;done)⟩,(by show pts.length-(x+1)<pts.length-x;omega)⟩⟩)⟩
instance(priority:=50) abt(ly:ByteArray)(pts:List (Rq × Rq))(rd:Rq):DenI Tryz.prog 68 [.agg [.v (.int .i64 2),.v (.string ly),.sl 8 (pts.map pV),.v (.bool rd.a),lmc rd.l,.v (.bool rd.b),lmc rd.m]] (pJ ⟨2,ly,pts,rd⟩) (.bool (nH ⟨2,ly,pts,rd⟩)):=⟨λhp=>by
 have hpl:pts.length≤5:=hp.2.2.1;have hpr:Ip rd:=hp.2.1
 all_goals refine acs Tryz.func68 rfl ?_
 all_goals(repeat'((try(conv=>whnf));first
  |refine call_i ?_ ?_|(with_reducible first|refine onB_t ?_|refine onB_f ?_|refine onB_d (λ_=>?_) (λ_=>?_)|refine onB_n (λ_=>?_) (λ_=>?_))|refine OnB.mk (λ_=>?_) (λ_=>?_)|refine Ends.mk ?_))
 all_goals(try refine Pr.mk ?_)
 all_goals first
  |((conv=>whnf);refine Sw.Loop.inv (α:=Nat) (λx=>[(1,.ptr 1 0),(3,.int .i64 3),(4,.int .i64 (x:Nat))]) (λx=>[(1,.var [.v (.int .i64 2),.v (.string ly),.sl 8 (pts.map pV),.v (.bool rd.a),lmc rd.l,.v (.bool rd.b),lmc rd.m])]) (λx=>x≤pts.length∧∀j<x,(iY (pts.getD j sD).1&&iY (pts.getD j sD).2)=true) (λx=>pts.length-x) 0 ?_ ?_ ?_ (λx hx=>?_))|skip
 all_goals(repeat'((try(conv=>whnf));first
  |refine call_i ?_ ?_|(with_reducible first|refine onB_t ?_|refine onB_f ?_|refine onB_d (λ_=>?_) (λ_=>?_))|refine OnB.mk (λ_=>?_) (λ_=>?_)|refine elem_map sD ?_ ?_|refine Ends.mk ?_))
 all_goals(try refine Pr.mk ?_)
 all_goals(try simp only[bK,fU]at *)
 all_goals(try simp only[am3]at *)
 all_goals first
  |(exfalso;omega)|omega|trivial|exact⟨oW _,λj hj=>absurd hj (Jr _)⟩|exact(ng hp (by show _<pts.length;omega)).1|exact(ng hp (by show _<pts.length;omega)).2|((with_reducible show packA _=_);refine bE ?_;rw[o9 (by simp only[];omega)];done)|((with_reducible show packA _=_);refine bE ?_;rw[vG (x:=x) (by show x<pts.length;omega) (by simp_all;done)];done)|((with_reducible show packA _=_);refine bE ?_;have hxx:x=pts.length:=(by omega);subst hxx;rw[qx (e:=⟨2,ly,pts,rd⟩) (.inr (.inl ⟨rfl,by show pts.length=3;omega⟩)) hx.2];simp_all;done)|((conv=>whnf);exact⟨x+1,⟨⟨rfl,rfl,aW (by omega),trivial⟩,⟨rfl,trivial⟩,⟨by omega,dR hx.2 (by simp_all;done)⟩,(by show pts.length-(x+1)<pts.length-x;omega)⟩⟩)⟩
instance(priority:=50) abe(ly:ByteArray)(pts:List (Rq × Rq))(rd:Rq):DenI Tryz.prog 68 [.agg [.v (.int .i64 3),.v (.string ly),.sl 8 (pts.map pV),.v (.bool rd.a),lmc rd.l,.v (.bool rd.b),lmc rd.m]] (pJ ⟨3,ly,pts,rd⟩) (.bool (nH ⟨3,ly,pts,rd⟩)):=⟨λhp=>by
 have hpl:pts.length≤5:=hp.2.2.1;have hpr:Ip rd:=hp.2.1
 all_goals refine acs Tryz.func68 rfl ?_
 all_goals(repeat'((try(conv=>whnf));first
  |refine call_i ?_ ?_|(with_reducible first|refine onB_t ?_|refine onB_f ?_|refine onB_d (λ_=>?_) (λ_=>?_)|refine onB_n (λ_=>?_) (λ_=>?_))|refine OnB.mk (λ_=>?_) (λ_=>?_)|refine Ends.mk ?_))
 all_goals(try refine Pr.mk ?_)
 all_goals first
  |((conv=>whnf);refine Sw.Loop.inv (α:=Nat) (λx=>[(1,.ptr 1 0),(3,.int .i64 1),(4,.int .i64 (x:Nat))]) (λx=>[(1,.var [.v (.int .i64 3),.v (.string ly),.sl 8 (pts.map pV),.v (.bool rd.a),lmc rd.l,.v (.bool rd.b),lmc rd.m])]) (λx=>x≤pts.length∧∀j<x,(iY (pts.getD j sD).1&&iY (pts.getD j sD).2)=true) (λx=>pts.length-x) 0 ?_ ?_ ?_ (λx hx=>?_))|skip
 all_goals(repeat'((try(conv=>whnf));first
  |refine call_i ?_ ?_|(with_reducible first|refine onB_t ?_|refine onB_f ?_|refine onB_d (λ_=>?_) (λ_=>?_))|refine OnB.mk (λ_=>?_) (λ_=>?_)|refine elem_map sD ?_ ?_|refine Ends.mk ?_))
 all_goals(try refine Pr.mk ?_)
 all_goals(try simp only[bK,fU]at *)
 all_goals(try simp only[am3]at *)
 all_goals first
  |(exfalso;omega)|omega|trivial|exact⟨oW _,λj hj=>absurd hj (Jr _)⟩|exact(ng hp (by show _<pts.length;omega)).1|exact(ng hp (by show _<pts.length;omega)).2|exact Jg (by simp_all)|((with_reducible show packA _=_);refine bE ?_;rw[o9 (by simp only[];omega)];done)|((with_reducible show packA _=_);refine bE ?_;rw[vG (x:=x) (by show x<pts.length;omega) (by simp_all;done)];done)|((with_reducible show packA _=_);refine bE ?_;rw[abR rfl (by simp_all;done)];done)|((with_reducible show packA _=_);refine bE ?_;have hxx:x=pts.length:=(by omega);subst hxx;rw[qx (e:=⟨3,ly,pts,rd⟩) (.inr (.inr ⟨rfl,by show pts.length=1;omega⟩)) hx.2];simp_all;done)|((conv=>whnf);exact⟨x+1,⟨⟨rfl,rfl,aW (by omega),trivial⟩,⟨rfl,trivial⟩,⟨by omega,dR hx.2 (by simp_all;done)⟩,(by show pts.length-(x+1)<pts.length-x;omega)⟩⟩)⟩
instance(priority:=50) abZ(kd:Int)(ly:ByteArray)(pts:List (Rq × Rq))(rd:Rq):DenI Tryz.prog 68 [.agg [.v (.int .i64 kd),.v (.string ly),.sl 8 (pts.map pV),.v (.bool rd.a),lmc rd.l,.v (.bool rd.b),lmc rd.m]] (kd<1∨3<kd) (.bool (nH ⟨kd,ly,pts,rd⟩)):=⟨λhp=>by
 refine acs Tryz.func68 rfl ?_
 all_goals(repeat'((try(conv=>whnf));first
  |refine call_i ?_ ?_|(with_reducible first|refine onB_t ?_|refine onB_f ?_|refine onB_d (λ_=>?_) (λ_=>?_)|refine onB_n (λ_=>?_) (λ_=>?_))|refine OnB.mk (λ_=>?_) (λ_=>?_)|refine Ends.mk ?_))
 all_goals(try refine Pr.mk ?_)
 all_goals first
  |(exfalso;omega)|((with_reducible show packA _=_);refine bE ?_;rw[o9 (by simp only[];omega)];done)⟩
instance(priority:=2000) aiP(e:EntR):DenI Tryz.prog 68 [.agg (dP e)] (pJ e) (.bool (nH e)):=⟨λhp=>by
 obtain⟨kd,ly,pts,rd⟩:=e;have hk:(kd<1∨3<kd)∨kd=1∨kd=2∨kd=3:=by omega
 rcases hk with hk|rfl|rfl|rfl
 ·exact(abZ kd ly pts rd).den hk
 ·exact(aa3 ly pts rd).den hp
 ·exact(abt ly pts rd).den hp
 ·exact(abe ly pts rd).den hp⟩
instance ajl(l:LayD):DenI Tryz.prog 66 [.agg (dI l)] (l.name.size≤1000000) (.bool (Du l)):=⟨λhp=>by
 refine acs Tryz.func66 rfl ?_
 all_goals(repeat'((try(conv=>whnf));first
  |refine call_i ?_ ?_|(with_reducible first|refine onB_t ?_|refine onB_f ?_|refine onB_d (λ_=>?_) (λ_=>?_))|refine OnB.mk (λ_=>?_) (λ_=>?_)|refine Ends.mk ?_))
 all_goals(try refine Pr.mk ?_)
 all_goals first
  |omega|(refine bE ?_;unfold Du;rw[Bf];simp_all;done)|(refine bE ?_;unfold Du;rw[Bf];simp_all;omega)⟩
instance ajV(ls:List LayD)(s:ByteArray):DenI Tryz.prog 67 [.c (.sl 3 (ls.map dI)),.c (.v (.string s))] (ls.length≤1000) (.int .i64 (sG ls s)):=⟨λhp=>by
 refine acs Tryz.func67 rfl ?_
 all_goals first
  |((conv=>whnf);refine Sw.Loop.inv (α:=Nat) (λk=>[(0,.c (.sl 3 (ls.map dI))),(1,.c (.v (.string s))),(5,.int .i64 (k:Nat))]) (λk=>[]) (λk=>k≤ls.length∧∀j<k,eqS (ls.getD j L0).name s=false) (λk=>ls.length-k) 0 ?_ ?_ ?_ (λk hk=>?_))
 all_goals(repeat'((try(conv=>whnf));first
  |(with_reducible refine onB_d (λ_=>?_) (λ_=>?_))|refine OnB.mk (λ_=>?_) (λ_=>?_)|refine elem_map L0 ?_ ?_|refine Ends.mk ?_))
 all_goals(try refine Pr.mk ?_)
 all_goals(try simp only[bK,fU]at *)
 all_goals first
  |omega|trivial|exact⟨oW _,λj hj=>absurd hj (Jr _)⟩|((conv=>whnf);exact⟨k+1,⟨⟨rfl,rfl,aW (by omega),trivial⟩,trivial,⟨by omega,dR hk.2 (by assumption)⟩,(by show ls.length-(k+1)<ls.length-k;omega)⟩⟩)|((with_reducible show packA _=_);rw[A8 (x:=k) (by omega) hk.2 (by assumption)];rfl)|((with_reducible show packA _=_);have hxx:k=ls.length:=(by omega);subst hxx;rw[Xo hk.2];rfl)⟩
instance ae3(ls:List LayD)(es:List EntR):DenI Tryz.prog 22 [.agg [(.sl 3 (ls.map dI)),.sl 7 (es.map dP)]] (ls.length≤1000∧es.length≤1000∧(∀l∈ls,l.name.size≤1000)∧∀e∈es,pJ e) (.int .i64 (kG ls es)):=⟨λhp=>by
 obtain⟨hp1,hp2,hp3,hp4⟩:=hp
 all_goals refine acs Tryz.func22 rfl ?_
 all_goals(repeat'((try(conv=>whnf));first
  |(with_reducible first|refine onB_t ?_|refine onB_f ?_|refine onB_d (λ_=>?_) (λ_=>?_))|refine Ends.mk ?_))
 all_goals(try simp only[bK,fU]at *)
 all_goals first
  |((conv=>whnf);refine Sw.Loop.inv (α:=Nat) (λx=>[(1,.ptr 1 0),(3,.int .i64 (x:Nat))]) (λx=>[(1,.var [(.sl 3 (ls.map dI)),.sl 7 (es.map dP)])]) (λx=>x≤ls.length∧∀j<x,qM ls j=none) (λx=>ls.length-x) 0 ?_ ?_ ?_ (λx hx=>?_))|skip
 all_goals(repeat'((try(conv=>whnf));first
  |refine call_i ?_ ?_|(with_reducible refine onB_d (λ_=>?_) (λ_=>?_))|refine OnB.mk (λ_=>?_) (λ_=>?_)|refine Drw.mk (by kernel_rfl) ?_|refine elem_map L0 ?_ ?_|refine Ends.mk ?_))
 all_goals(try refine Pr.mk ?_)
 all_goals(try simp only[bK,fU]at *)
 all_goals first
  |((conv=>whnf);refine Sw.Loop.inv (α:=Nat) (λy=>[(1,.ptr 1 0),(4,.int .i64 (y:Nat))]) (λy=>[(1,.var [(.sl 3 (ls.map dI)),.sl 7 (es.map dP)])]) (λy=>y≤es.length∧∀j<y,sH ls es j=none) (λy=>es.length-y) 0 ?_ ?_ ?_ (λy hy=>?_))|skip
 all_goals(repeat'((try(conv=>whnf));first
  |refine call_i ?_ ?_|(with_reducible refine onB_d (λ_=>?_) (λ_=>?_))|refine OnB.mk (λ_=>?_) (λ_=>?_)|refine Drw.mk (by kernel_rfl) ?_|refine elem_map wK ?_ ?_|refine Ends.mk ?_))
 all_goals(try refine Pr.mk ?_)
 all_goals(try simp only[bK,fU]at *)
 all_goals first
  |omega|trivial|exact⟨oW _,λj hj=>absurd hj (Jr _)⟩|(have z:=acz hp3 x;omega)|exact acH hp4 (by omega)|(refine iE ?_;rw[QT (by omega)];done)|(refine iE ?_;rw[Ie (by omega) (by omega) hx.2 (adD (by assumption))];done)|(refine iE ?_;rw[Ie (by omega) (by omega) hx.2 (adl (by assumption) (by assumption))];done)|(refine iE ?_;have hxx:x=ls.length:=(by omega);subst hxx;rw[Iq (by omega) hx.2 (by omega) hy.2 (ad1 (by assumption))];done)|(refine iE ?_;have hxx:x=ls.length:=(by omega);subst hxx;rw[Iq (by omega) hx.2 (by omega) hy.2 (afn (by assumption) (by assumption))];done)|(refine iE ?_;have hxx:x=ls.length:=(by omega);subst hxx;have hyy:y=es.length:=(by omega);subst hyy;rw[XP (by omega) hx.2 hy.2];done)|((conv=>whnf);exact⟨y+1,⟨⟨rfl,aW (by omega),trivial⟩,⟨rfl,trivial⟩,⟨by omega,dR hy.2 (adb (by assumption) (by assumption))⟩,(by show es.length-(y+1)<es.length-y;omega)⟩⟩)|((conv=>whnf);exact⟨x+1,⟨⟨rfl,aW (by omega),trivial⟩,⟨rfl,trivial⟩,⟨by omega,dR hx.2 (aeH (by assumption) (by assumption))⟩,(by show ls.length-(x+1)<ls.length-x;omega)⟩⟩)⟩
instance(priority:=2000) Qp(ls:List LayD)(es:List Ent):DenI Tryz.prog 22 [.agg [(.sl 3 (ls.map dI)),.sl 7 (es.map cO)]] (ls.length≤1000∧es.length≤1000∧(∀l∈ls,l.name.size≤1000)∧∀e∈es,pJ (gQ e)) (.int .i64 (kG ls (es.map gQ))):=⟨λ⟨h1,h2,h3,h4⟩=>by
 have h:=(ae3 ls (es.map gQ)).den ⟨h1,by rw[bK];exact h2,h3,λe he=>by obtain⟨x,hx,rfl⟩:=iM.1 he;exact h4 x hx⟩;have e:(es.map gQ).map dP=es.map cO:=by rw[List.map_map];exact List.map_congr_left λe _=>YC e
 rw[e]at h
 exact h⟩
instance amo(ls:List LayD)(es:List EntR)(e:EntR):DenI Tryz.prog 64 [.agg [(.sl 3 (ls.map dI)),.sl 7 (es.map dP)],.agg (dP e)] (ls.length≤1000∧pJ e) (.int .i64 (bH ls e)):=⟨λhp=>by
 obtain⟨hp1,hp2⟩:=hp
 all_goals refine acs Tryz.func64 rfl ?_
 all_goals(repeat'((try(conv=>whnf));first
  |refine call_i ?_ ?_|(with_reducible refine onB_d (λ_=>?_) (λ_=>?_))|refine OnB.mk (λ_=>?_) (λ_=>?_)|refine Ends.mk ?_))
 all_goals(try refine Pr.mk ?_)
 all_goals first
  |assumption|(refine iE ?_;unfold bH;rw[if_pos (by assumption)];done)|(refine iE ?_;unfold bH;rw[if_neg (by assumption),if_pos (by simp_all;done)];done)|(refine iE ?_;unfold bH;rw[if_neg (by assumption),if_neg (by simp_all;done)];done)⟩
instance akw(ls:List LayD):DenI Tryz.prog 63 [.c (.sl 3 (ls.map dI))] (0<ls.length∧ls.length≤1000∧(∀l∈ls,l.name.size≤1000)) (.int .i64 (vZ ls)):=⟨λhp=>by
 obtain⟨hp1,hp2,hp3⟩:=hp;have hw:(IntKind.i64.wrap ((ls.length:Int)-1))=((ls.length-1:Nat):Int):=by rw[bW (by omega) (by omega)];omega
 all_goals refine acs Tryz.func63 rfl ?_
 all_goals(repeat'((try(conv=>whnf));first
  |refine call_i ?_ ?_|(with_reducible refine onB_d (λ_=>?_) (λ_=>?_))|refine OnB.mk (λ_=>?_) (λ_=>?_)|refine elem_map L0 ?_ ?_|refine Ends.mk ?_))
 all_goals(try refine Pr.mk ?_)
 all_goals(try simp only[bK,fU]at *)
 all_goals(try simp only[hw,fU]at *)
 all_goals first
  |omega|(have z:=acz hp3 (ls.length-1);omega)|(refine iE ?_;unfold vZ;rw[if_pos (by simp_all;done)];done)|(refine iE ?_;unfold vZ;rw[if_neg (by simp_all;done),if_pos (by assumption)];done)|(refine iE ?_;unfold vZ;rw[if_neg (by simp_all;done),if_neg (by assumption)];done)⟩
instance(priority:=2000) ak0(ls:List LayD)(a b:Nat):DenI Tryz.prog 63 [.c (.sl 3 (((ls.map dI).take b).drop a))] (a=0∧0<b∧b≤ls.length∧ls.length≤1000∧(∀l∈ls,l.name.size≤1000)) (.int .i64 (vZ (ls.take b))):=⟨λ⟨h1,h2,h3,h4,h5⟩=>by
 have h:=(akw (ls.take b)).den ⟨by rw[vY];omega,by rw[vY];omega,λl hl=>h5 l (qb9 hl)⟩;rw[List.map_take]at h;subst h1
 exact h⟩
instance agX(ls:List LayD)(es:List EntR):DenI Tryz.prog 20 [.agg [(.sl 3 (ls.map dI)),.sl 7 (es.map dP)]] (ls.length≤1000∧es.length≤1000∧(∀l∈ls,l.name.size≤1000)∧∀e∈es,pJ e) (.int .i64 (kG ls es)):=⟨λhp=>by
 obtain⟨hp1,hp2,hp3,hp4⟩:=hp
 all_goals refine acs Tryz.func20 rfl ?_
 all_goals(repeat'((try(conv=>whnf));first
  |(with_reducible first|refine onB_t ?_|refine onB_f ?_|refine onB_d (λ_=>?_) (λ_=>?_))|refine Ends.mk ?_))
 all_goals(try simp only[bK,fU]at *)
 all_goals first
  |((conv=>whnf);refine Sw.Loop.inv (α:=Nat) (λx=>[(1,.ptr 1 0),(20,.int .i64 (ls.length:Nat)),(21,.int .i64 (x:Nat))]) (λx=>[(1,.var [(.sl 3 (ls.map dI)),.sl 7 (es.map dP)])]) (λx=>x≤ls.length∧∀j<x,qM ls j=none) (λx=>ls.length-x) 0 ?_ ?_ ?_ (λx hx=>?_))|skip
 all_goals(repeat'((try(conv=>whnf));first
  |refine call_i ?_ ?_|(with_reducible first|refine onB_d (λ_=>?_) (λ_=>?_)|refine onB_n (λ_=>?_) (λ_=>?_))|refine slp_i ?_ ?_|refine Ends.mk ?_))
 all_goals(try refine Pr.mk ?_)
 all_goals(try simp only[bK,fU]at *)
 all_goals first
  |((conv=>whnf);refine Sw.Loop.inv (α:=Nat) (λy=>[(1,.ptr 1 0),(35,.c (.sl 7 (es.map dP))),(36,.int .i64 (es.length:Nat)),(37,.int .i64 (y:Nat))]) (λy=>[(1,.var [(.sl 3 (ls.map dI)),.sl 7 (es.map dP)])]) (λy=>y≤es.length∧∀j<y,sH ls es j=none) (λy=>es.length-y) 0 ?_ ?_ ?_ (λy hy=>?_))|skip
 all_goals(repeat'((try(conv=>whnf));first
  |refine call_i ?_ ?_|(with_reducible first|refine onB_d (λ_=>?_) (λ_=>?_)|refine onB_n (λ_=>?_) (λ_=>?_))|refine elem_map wK ?_ ?_|refine Ends.mk ?_))
 all_goals(try refine Pr.mk ?_)
 all_goals(try simp only[bK,fU]at *)
 all_goals(try simp only[Ad,MX,fU,Vp]at *)
 all_goals(try simp(disch:=omega) only[bW]at *)
 all_goals(try(have ht:((x:Int)+1).toNat=x+1:=(by omega);simp only[ht]at *;clear ht))
 all_goals first
  |omega|trivial|exact⟨oW _,λj hj=>absurd hj (Jr _)⟩|(refine⟨by omega,by omega,by omega,by omega, ?_⟩;intro h;first|exact h|rfl|(cases h))|exact⟨trivial,by omega,by omega,by omega,hp3⟩|exact⟨by omega,acH hp4 (by omega)⟩|(refine iE ?_;rw[QT (by omega)];done)|(refine iE ?_;rw[Ie (by omega) (by omega) hx.2 ((Y8 (by omega)).2 (by assumption))];done)|(refine iE ?_;have hxx:x=ls.length:=(by omega);subst hxx;rw[Iq (by omega) hx.2 (by omega) hy.2 (VH.2 (by assumption))];done)|(refine iE ?_;have hxx:x=ls.length:=(by omega);subst hxx;have hyy:y=es.length:=(by omega);subst hyy;rw[XP (by omega) hx.2 hy.2];done)|((conv=>whnf);exact⟨y+1,⟨⟨rfl,rfl,rfl,aW (by omega),trivial⟩,⟨rfl,trivial⟩,⟨by omega,dR hy.2 (VH.1 (by assumption))⟩,(by show es.length-(y+1)<es.length-y;omega)⟩⟩)|((conv=>whnf);exact⟨x+1,⟨⟨rfl,rfl,aW (by omega),trivial⟩,⟨rfl,trivial⟩,⟨by omega,dR hx.2 ((Y8 (by omega)).1 (by assumption))⟩,(by show ls.length-(x+1)<ls.length-x;omega)⟩⟩)⟩
instance VN(e:Ent):DenI Tryz.prog 26 [.agg (cO e)] (e.pts.length≤1000000) (Dq e):=⟨λhp=>by
 refine acs Tryz.func26 rfl ?_
 all_goals(repeat'((try(conv=>whnf));first
  |(with_reducible first|refine onB_t ?_|refine onB_f ?_|refine onB_d (λ_=>?_) (λ_=>?_))|refine Drw.mk (by kernel_rfl) ?_|refine elem_map P0 ?_ ?_|refine Ends.mk ?_))
 all_goals(try refine Pr.mk ?_)
 all_goals(try simp only[bK]at *)
 all_goals first
  |(exfalso;omega)|exact KX (by omega) (by first|rfl|omega) (by first|rfl|omega)|exact Qn (by omega)|omega⟩
instance(priority:=3000) Rw(e:Ent):DenI Tryz.prog 26 [.agg (cO e)] (e.pts.length≤1000000) (.tup [.c (.sl 8 ((aS e).map vecC)),.bool (decide (aS e≠[]))]):=⟨λhp=>WX rfl (by by_cases h:aS e=[]<;>simp [h]) ((VN e).den hp)⟩
@[reducible] def Kv(a b c d:Rat):List Cell:=[.v (.bool false),zs (b-d:Rat).num,zl (b-d:Rat).num,zs (b-d:Rat).den,zl (b-d:Rat).den,zs (c-a:Rat).num,zl (c-a:Rat).num,zs (c-a:Rat).den,zl (c-a:Rat).den,zs ((b-d)*a+(c-a)*b:Rat).num,zl ((b-d)*a+(c-a)*b:Rat).num,zs ((b-d)*a+(c-a)*b:Rat).den,zl ((b-d)*a+(c-a)*b:Rat).den,.v (.bool false),.sl 1 [],.v (.bool false),.sl 1 [],.v (.bool false),.sl 1 [],.v (.bool false),.sl 1 [],.v (.bool false),.sl 1 [],.v (.bool false),.sl 1 [],.v (.bool false),zs (a:Rat).num,zl (a:Rat).num,zs (a:Rat).den,zl (a:Rat).den,zs (0:Rat).num,zl (0:Rat).num,zs (0:Rat).den,zl (0:Rat).den,zs (b:Rat).num,zl (b:Rat).num,zs (b:Rat).den,zl (b:Rat).den,zs (0:Rat).num,zl (0:Rat).num,zs (0:Rat).den,zl (0:Rat).den,zs (0:Rat).num,zl (0:Rat).num,zs (0:Rat).den,zl (0:Rat).den,zs (c:Rat).num,zl (c:Rat).num,zs (c:Rat).den,zl (c:Rat).den,zs (0:Rat).num,zl (0:Rat).num,zs (0:Rat).den,zl (0:Rat).den,zs (d:Rat).num,zl (d:Rat).num,zs (d:Rat).den,zl (d:Rat).den,zs (0:Rat).num,zl (0:Rat).num,zs (0:Rat).den,zl (0:Rat).den,zs (0:Rat).num,zl (0:Rat).num,zs (0:Rat).den,zl (0:Rat).den]
instance ai6(a b c d:Rat):DenC Tryz.prog 128 [Q2 a b,Q2 c d] (rz a≤50∧rz b≤50∧rz c≤50∧rz d≤50) ((b-d)=0∧(c-a)=0) (.tup [.agg [.v (.bool false),.v (.bool false),.sl 1 [],.v (.bool false),.sl 1 [],.v (.bool false),.sl 1 [],.v (.bool false),.sl 1 [],.v (.bool false),.sl 1 [],.v (.bool false),.sl 1 [],.v (.bool false),.sl 1 [],.v (.bool false),.sl 1 [],.v (.bool false),.sl 1 [],.v (.bool false),.sl 1 [],.v (.bool false),.sl 1 [],.v (.bool false),.sl 1 [],.v (.bool false),.v (.bool false),.sl 1 [],.v (.bool false),.sl 1 [],.v (.bool false),.sl 1 [],.v (.bool false),.sl 1 [],.v (.bool false),.sl 1 [],.v (.bool false),.sl 1 [],.v (.bool false),.sl 1 [],.v (.bool false),.sl 1 [],.v (.bool false),.sl 1 [],.v (.bool false),.sl 1 [],.v (.bool false),.sl 1 [],.v (.bool false),.sl 1 [],.v (.bool false),.sl 1 [],.v (.bool false),.sl 1 [],.v (.bool false),.sl 1 [],.v (.bool false),.sl 1 [],.v (.bool false),.sl 1 [],.v (.bool false),.sl 1 [],.v (.bool false),.sl 1 [],.v (.bool false),.sl 1 []],.int .i64 6]) (.tup [.agg (Kv a b c d),.int .i64 0]):=⟨denC λhp q e1 e2=>by
 have i_a:RzB a 50:=⟨hp.1⟩
 have i_b:RzB b 50:=⟨hp.2.1⟩
 have i_c:RzB c 50:=⟨hp.2.2.1⟩
 have i_d:RzB d 50:=⟨hp.2.2.2⟩
 all_goals refine den_of (τ:=tab) Pj eF Tryz.func128 rfl (by kernel_rfl) (by kernel_rfl) (by kernel_rfl) ?_
 all_goals(repeat'((try(conv=>whnf));first
  |refine call_i ?_ ?_|refine call_c ?_ (λ_=>?_) (λ_=>?_)|(with_reducible refine onB_n (λ_=>?_) (λ_=>?_))|refine Drw.mk (by kernel_rfl) ?_|refine Ends.mk ?_))
 all_goals(try refine Pr.mk ?_)
 all_goals(try simp only[am3]at *)
 all_goals first
  |(exfalso;omega)|(exfalso;rename ¬True=>h;exact h trivial)|(rw[e1 (by assumption)];rfl)|(rw[e2 (by assumption)];rfl)|((repeat' apply And.intro)<;>first|assumption|exact jh (by omega)|exact jl (by omega)|exact iU (amR _) (amR _))⟩
instance amd(l:ByteArray)(a m b:P2)(r:Rq):DenC Tryz.prog 98 [.agg [.v (.int .i64 2),.v (.string l),.sl 8 [vecC a,vecC m,vecC b],.v (.bool r.a),lmc r.l,.v (.bool r.b),lmc r.m]] (aV a∧aV m∧aV b) (jE a m b=0) (.tup [.c (.sl 0 []),.int .i64 6]) (.tup [.c (.sl 66 [OJ (jT a m b) (ji a m b) (Ru a m b) (!decide (0<jE a m b)) a.1 a.2 b.1 b.2]),.int .i64 0]):=⟨denC λhp q e1 e2=>by
 obtain⟨g1,g2,g3⟩:=hp
 all_goals refine den_of (τ:=tab) Pj eF Tryz.func98 rfl (by kernel_rfl) (by kernel_rfl) (by kernel_rfl) ?_
 all_goals(repeat'((try(conv=>whnf));first
  |refine call_c ?_ (λ_=>?_) (λ_=>?_)|(with_reducible first|refine onB_d (λ_=>?_) (λ_=>?_)|refine onB_n (λ_=>?_) (λ_=>?_))|refine Drw.mk (by kernel_rfl) ?_|(with_reducible first|refine elem_0 ?_|refine elem_1 ?_|refine NZ ?_)|refine Ends.mk ?_))
 all_goals(try refine Pr.mk ?_)
 all_goals(try simp only[am3]at *)
 all_goals first
  |(exfalso;rename ¬True=>h;exact h trivial)|(exfalso;omega)|(rw[e1 (by assumption)];rfl)|(rw[e2 (by assumption)];rfl)|exact⟨dh g1.1 (by decide),dh g1.2 (by decide),dh g2.1 (by decide),dh g2.2 (by decide)⟩|exact⟨dh g1.1 (by decide),dh g1.2 (by decide),dh g2.1 (by decide),dh g2.2 (by decide),dh g3.1 (by decide),dh g3.2 (by decide)⟩⟩
instance ajq(l:ByteArray)(a b:P2)(r:Rq):DenI Tryz.prog 26 [.agg [.v (.int .i64 1),.v (.string l),.sl 8 [vecC a,vecC b],.v (.bool r.a),lmc r.l,.v (.bool r.b),lmc r.m]] True (.tup [.c (.sl 8 [vecC a,vecC b]),.bool true]):=⟨λ_=>by
 have h:=(Rw ⟨1,l,[a,b],r⟩).den (by show _≤1000000;simp);simp only[aS]at h
 exact h⟩
instance ajs(l:ByteArray)(a m b:P2)(r:Rq):DenI Tryz.prog 26 [.agg [.v (.int .i64 2),.v (.string l),.sl 8 [vecC a,vecC m,vecC b],.v (.bool r.a),lmc r.l,.v (.bool r.b),lmc r.m]] True (.tup [.c (.sl 8 [vecC a,vecC b]),.bool true]):=⟨λ_=>by
 have h:=(Rw ⟨2,l,[a,m,b],r⟩).den (by show _≤1000000;simp);simp only[aS]at h
 exact h⟩
instance ald(l:ByteArray)(a m b:P2)(r:Rq)(v:P2):DenI Tryz.prog 131 [.agg [.v (.int .i64 2),.v (.string l),.sl 8 [vecC a,vecC m,vecC b],.v (.bool r.a),lmc r.l,.v (.bool r.b),lmc r.m],.agg (vecC v)] (aV a∧aV m∧aV b∧aV v) (.bool (zY a m b v)):=⟨λhp=>by
 obtain⟨g1,g2,g3,g4⟩:=hp
 all_goals refine acs Tryz.func131 rfl ?_
 all_goals(repeat'((try(conv=>whnf));first
  |refine call_i ?_ ?_|refine call_c ?_ (λ_=>?_) (λ_=>?_)|(with_reducible first|refine onB_t ?_|refine onB_f ?_|refine onB_d (λ_=>?_) (λ_=>?_))|refine Drw.mk (by kernel_rfl) ?_|(with_reducible refine elem_0 ?_)|refine Ends.mk ?_))
 all_goals(try refine Pr.mk ?_)
 all_goals(try simp only[am3]at *)
 all_goals first
  |(exfalso;rename ¬True=>h;exact h trivial)|(exfalso;omega)|exact bE (ZU (a:=a) (b:=m) (c:=b) (p:=v) (by assumption))|exact bE (VU (a:=a) (b:=m) (c:=b) (p:=v) (by assumption)).symm|exact⟨g1,g2,g3⟩|exact⟨(yS g1 g2 g3).1,(yS g1 g2 g3).2.1,(yS g1 g2 g3).2.2,g1.1,g1.2,g3.1,g3.2,g4.1,g4.2⟩|exact⟨dh g4.1 (by decide),dh g4.2 (by decide)⟩⟩
instance ams(a b c d:P2):DenI Tryz.prog 130 [.c (.sl 8 [vecC a,vecC b]),.c (.sl 8 [vecC c,vecC d])] (aV a∧aV b∧aV c∧aV d) (.bool (uz [a,b] [c,d])):=⟨λhp=>by
 obtain⟨z0,z1,z2,z3⟩:=hp;have h:=(Qj (h:=KZ [a,b] [c,d])).den ⟨by simp,by simp,λp h=>by simp at h;rcases h with rfl|rfl<;>assumption,λp h=>by simp at h;rcases h with rfl|rfl<;>assumption⟩
 simpa using h⟩
instance amD(a m b c n d:P2):DenI Tryz.prog 130 [.c (.sl 8 [vecC a,vecC m,vecC b]),.c (.sl 8 [vecC c,vecC n,vecC d])] (aV a∧aV m∧aV b∧aV c∧aV n∧aV d) (.bool (uz [a,m,b] [c,n,d])):=⟨λhp=>by
 obtain⟨z0,z1,z2,z3,z4,z5⟩:=hp;have h:=(Qj (h:=KZ [a,m,b] [c,n,d])).den ⟨by simp,by simp,λp h=>by simp at h;rcases h with rfl|rfl|rfl<;>assumption,λp h=>by simp at h;rcases h with rfl|rfl|rfl<;>assumption⟩
 simpa using h⟩
end Go.Proofs.YtmniihkenijjpaaGreatDoor
