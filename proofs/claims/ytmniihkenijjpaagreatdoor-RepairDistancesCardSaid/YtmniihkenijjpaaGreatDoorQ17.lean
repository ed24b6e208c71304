/-
  Rules of the abstract run, plain laws, and what functions answer, for the law RepairDistances.
  Conditions: none.
-/
import Derived.Test.YtmniihkenijjpaaGreatDoorQ16
import Derived.Shelf.LaysM
import Derived.Shelf.Strconv.Itoa1
import Derived.Shelf.Strconv.Itoa2
import Derived.Lib.Walk
import Derived.Lib.ItoaMem
import Derived.Lib.ItoaLen
import Derived.Lib.AppendIntMem
import Derived.WalkKit
import Derived.BigCall
import Derived.BigGuard
import Derived.Shelf.Strings.Repeat
import Derived.Lib.Builder
import Derived.Shelf.Strings.Builder1
import Derived.Shelf.SlicesE.Clone
set_option linter.all false
namespace Go.Proofs.YtmniihkenijjpaaGreatDoor
open Go Go.RowKit Go.Sw Go.Shelf
set_option maxRecDepth 100000
set_option maxHeartbeats 8000000
set_option synthInstance.maxSize 4000
set_option synthInstance.maxHeartbeats 400000
instance aie(n:Nat):DenI Tryz.prog 254 [.int .i64 (n:Nat)] (n≤31) (Z (p10 n)):=⟨λhp=>by
 refine aiE Tryz.func254 rfl ?_
 all_goals (repeat' ((try (conv=>whnf));first
  |refine ak ?_ ?_))
 all_goals (try refine Pr.mk ?_)
 all_goals first
  |((conv=>whnf);refine Sw.Loop.inv (α:=Nat) (λx=>[(2,.ptr 2 0),(3,.ptr 3 0),(4,.ptr 4 0),(7,.int .i64 (n:Nat)),(8,.int .i64 (x:Nat))]) (λx=>[(2,.var [.v (.bool false),.sl 1 []]),(3,.var [zs (p10 x),zl (p10 x)]),(4,.var [zs 10,zl 10])]) (λx=>x≤n∧True) (λx=>n-x) 0 ?_ ?_ ?_ (λx hx=>?_))
  |skip
 all_goals (repeat' ((try (conv=>whnf));first
  |refine ak ?_ ?_
  |(with_reducible refine au (λ_=>?_) (λ_=>?_))
  |refine Ends.mk ?_))
 all_goals (try refine Pr.mk ?_)
 all_goals first|(show SubE _ _;repeat' (first|exact trivial|refine And.intro ?_ ?_))|(show SubB _ _;repeat' (first|exact trivial|refine And.intro ?_ ?_))|skip
 all_goals (try rfl)
 all_goals first
  |omega
  |exact ⟨Nat.zero_le _,trivial⟩
  |exact ⟨Nat.le_trans (Ah (by omega)) (by decide),Nat.le_trans (gZ (n:=10) (by decide) (by decide)) (by decide)⟩
  |((with_reducible show aB _=_);have hxx:x=n:=(by omega);subst hxx;rfl)
  |((conv=>whnf);exact ⟨x+1,⟨⟨rfl,rfl,rfl,rfl,aX (by omega),trivial⟩,⟨rfl,(by show some (Bk.var [zs (p10 x*10),zl (p10 x*10)])=some (Bk.var [zs (p10 (x+1)),zl (p10 (x+1))]);rw [Aj]),rfl,trivial⟩,⟨by omega,trivial⟩,by show n-(x+1)<n-x;omega⟩⟩)⟩
instance ahO(a:Rat)(n:Nat):DenI Tryz.prog 223 [R a,.int .i64 (n:Nat)] (rz a≤100∧n≤30) (R (ZF a n)):=⟨λhp=>by
 have z1:=Gq (n:=n) (by omega);have z2:=Ah (n:=n) (by omega)
 all_goals refine aiE Tryz.func223 rfl ?_
 all_goals (repeat' ((try (conv=>whnf));first
  |refine ak ?_ ?_
  |refine jr ?_ (λ_=>?_) (λ_=>?_)
  |refine Ends.mk ?_))
 all_goals (try refine Pr.mk ?_)
 all_goals (try simp only [dU] at *)
 all_goals first
  |rfl
  |omega
  |exact ⟨Nat.le_trans z2 (by decide),Nat.le_trans (gZ (n:=1) (by decide) (by decide)) (by decide)⟩
  |(refine ⟨by omega, ?_⟩;have:=TN (n:=n) (by omega);omega)⟩
instance ahh(s:ByteArray):DenI Tryz.prog 225 [.str s] (s.size≤1000) (.tup [.str s,.bool true]):=⟨λhp=>by
 refine aiE Tryz.func225 rfl ?_
 all_goals (repeat' ((try (conv=>whnf));first
  |(with_reducible refine au (λ_=>?_) (λ_=>?_))
  |refine Ends.mk ?_))
 all_goals first
  |rfl
  |(exfalso;omega)⟩
theorem adl{k:Nat}(hk:k≤40)(w:World):Calls Tryz.prog 256 #[.string ⟨#[48]⟩,.int .i64 k] w λe w'=>e=.returned (.string (o9 k))∧Below w.heap.size w w':=by
 refine (Any.strings_Repeat Tn Zu ⟨#[48]⟩ k w (by omega) (by show 1*k≤_;omega)).mono ?_;rintro e w' ⟨rfl,hb⟩;refine ⟨?_,hb⟩
 have:Lib.repeatL [(48:UInt8)] k=List.replicate k 48:=by
  have:∀k:Nat,k≤40→Lib.repeatL [(48:UInt8)] k=List.replicate k 48:=by decide +kernel
  exact this k hk
 rw [show (ByteArray.mk #[48]).data.toList=[(48:UInt8)] from rfl,this];rfl
instance ahM(z:Int):DenI Tryz.prog 256 [.c (.v (.string ⟨#[48]⟩)),.c (.v (.int .i64 z))] (0≤z∧z≤40) (.c (.v (.string (o9 z.toNat)))):=⟨λhp=>by
 obtain ⟨n,rfl⟩:=Int.eq_ofNat_of_zero_le hp.1;refine Den.of ⟨by kernel_rfl,λw X vs hW hX hl hr=>?_⟩ rfl
 match vs,hl with
 |[u,v],_ =>
 have hu:u=.string ⟨#[48]⟩:=by
  have:=hr 0 u _ rfl rfl;cases this with
  |c h=>cases h;rfl
 have hv:v=.int .i64 (n:Nat):=by
  have:=hr 1 v _ rfl rfl;cases this with
  |c h=>cases h;rfl
 subst hu hv;refine Calls.mono (adl (k:=n) (by omega) w) ?_;rintro e w' ⟨rfl,hb⟩
 exact ⟨_,rfl,(RepR.d (.c (.v _ rfl))).f,hb⟩⟩
instance ah3(n:Int)(k:Nat):DenI Tryz.prog 224 [Z n,.int .i64 (k:Nat)] (sz n≤50∧k≤30) (.str (Qu n k)):=⟨λhp=>by
 have z0:=Fh hp.1;have z1:=Eu n;have z2:=LZ hp.1 hp.2
 by_cases hn:n<0
 all_goals refine aiE Tryz.func224 rfl ?_
 all_goals (repeat' ((try (conv=>whnf));first
  |refine aG ?_
  |refine ak ?_ ?_
  |(with_reducible refine au (λ_=>?_) (λ_=>?_))
  |refine aU ?_ ?_
  |refine Drw.mk (by kernel_rfl) ?_
  |refine dF ?_ ?_
  |refine Ends.mk ?_))
 all_goals (try refine Pr.mk ?_)
 all_goals (try simp only [dU] at *)
 all_goals (try (exfalso;omega))
 all_goals (try simp only [Option.getD_some,Option.getD_none,Int.toNat_natCast,Zh hn] at *)
 all_goals (try simp only [Option.getD_some,Option.getD_none,Int.toNat_natCast,Zx hn] at *)
 all_goals (try simp (disch:=omega) only [bY] at *)
 all_goals (try (have hle:(oN n).size≤k:=(by omega);have hB:=adN (n:=n) (k:=k) hle;simp only [hB] at *))
 all_goals (try (have hle:¬(oN n).size≤k:=(by omega);have hB:=ZU (n:=n) (k:=k) hle))
 all_goals (try simp (disch:=omega) only [bY] at *)
 all_goals first
  |omega
  |(refine Jv ?_;rw [Y9 (by omega)];unfold GN;first|rw [if_pos hn]|rw [if_neg hn])
  |(refine ⟨by omega,by omega,by omega,by omega, ?_⟩;intro h;first|exact h|rfl|(cases h))
  |((with_reducible show (_:Nat)≤_);(try simp only [ByteArray.size_append,ByteArray.size_extract,mD]);have e1:(ByteArray.mk #[45]).size=1:=rfl;have e2:(ByteArray.mk #[46]).size=1:=rfl;have e3:(ByteArray.mk #[]).size=0:=rfl;omega)
  |(refine Jv ?_;rw [Sr (by omega),show ((↑(zk n k).size:Int) - ↑k).toNat=(zk n k).size-k by omega];unfold GN;first|(rw [if_pos hn];rfl)|(rw [if_neg hn];rfl))
  |(refine Jv ?_;rw [Sr (by omega),hB,show ((↑(oN n).size:Int) - ↑k).toNat=(oN n).size-k by omega];unfold GN;first|(rw [if_pos hn];rfl)|(rw [if_neg hn];rfl))⟩
instance aio(x:Nat)(a:Rat):DenI Tryz.prog 200 [Z (p10 x),Z (a.den:Int)] (x≤31∧rz a≤1000) (.tup [Z ((p10 x).fdiv (a.den:Int)),Z ((10 ^ x % a.den:Nat):Int),.int .i64 0]):=⟨λhp=>by
 have h:=(inferInstance:DenI Tryz.prog 200 [Z (p10 x),Z (a.den:Int)] _ _).den (by exact ⟨Nat.le_trans (Ah hp.1) (by decide),Nat.le_trans (iR a) (by omega)⟩);rw [if_neg (aH a),if_neg (aH a),show (p10 x).fmod (a.den:Int)=((10 ^ x % a.den:Nat):Int) by unfold p10;rw [Int.fmod_eq_emod_of_nonneg _ (by omega)];omega] at h
 exact h⟩
instance aip(a:Rat):DenI Tryz.prog 181 [R a] (rz a≤20) (.tup [.str (exS a),.bool (Wh a).isSome]):=⟨λhp=>by
 refine aiE Tryz.func181 rfl ?_
 all_goals (repeat' ((try (conv=>whnf));first
  |refine ak ?_ ?_))
 all_goals (try refine Pr.mk ?_)
 all_goals first
  |((conv=>whnf);refine Sw.Loop.inv (α:=Nat) (λx=>[(1,.ptr 1 0),(5,.ptr 5 0),(6,.int .i64 (x:Nat))]) (λx=>[(1,.var (oZ a)),(5,.var [zs (p10 x),zl (p10 x)])]) (λx=>x≤31∧∀j<x,¬10 ^ j % a.den=0) (λx=>31-x) 0 ?_ ?_ ?_ (λx hx=>?_))
  |skip
 all_goals (repeat' ((try (conv=>whnf));first
  |refine aG ?_
  |refine ak ?_ ?_
  |(with_reducible refine au (λ_=>?_) (λ_=>?_))
  |refine Drw.mk (by kernel_rfl) ?_
  |refine Ends.mk ?_))
 all_goals (try refine Pr.mk ?_)
 all_goals first|(show SubE _ _;repeat' (first|exact trivial|refine And.intro ?_ ?_))|(show SubB _ _;repeat' (first|exact trivial|refine And.intro ?_ ?_))|skip
 all_goals (try rfl)
 all_goals (try simp only [dU] at *)
 all_goals first
  |omega
  |exact ⟨Nat.zero_le _,λj hj=>absurd hj (Nat.not_lt_zero _)⟩
  |exact ⟨Nat.le_trans (Ah (by omega)) (by decide),Nat.le_trans (gZ (n:=10) (by decide) (by decide)) (by decide)⟩
  |((conv=>whnf);exact ⟨x+1,⟨⟨rfl,rfl,aX (by omega),trivial⟩,⟨rfl,(by show some (Bk.var [zs (p10 x*10),zl (p10 x*10)])=some (Bk.var [zs (p10 (x+1)),zl (p10 (x+1))]);rw [Aj]),trivial⟩,⟨by omega,dN hx.2 (by omega)⟩,by show 31-(x+1)<31-x;omega⟩⟩)
  |exact ⟨Ku hp (by omega),by omega⟩
  |exact U4 (Ku hp (by omega)) (by omega)
  |(have e:=UY (a:=a) (x:=x) (by omega) hx.2 (by omega);simp only [exS,e];rfl)
  |(have e:=Za (a:=a) (λj hj=>hx.2 j (by omega));simp only [exS,e];rfl)⟩
instance aia(c:Nat):DenI Tryz.prog 175 [.c (.v (.int .u8 (c:Nat)))] (True) (.bool (Zm c)):=⟨λhp=>by
 refine aiE Tryz.func175 rfl ?_
 all_goals (repeat' ((try (conv=>whnf));first
  |(with_reducible refine aJ ?_)
  |(with_reducible refine aK ?_)
  |(with_reducible refine au (λ_=>?_) (λ_=>?_))
  |refine Ends.mk ?_))
 all_goals first
  |(refine bE ?_;rw [Bool.eq_iff_iff];simp only [Zm,Bool.or_eq_true,Bool.and_eq_true,decide_eq_true_eq,Bool.false_eq_true,iff_true,true_iff,iff_false,false_iff];omega)⟩
instance ahv(c:Nat):DenI Tryz.prog 220 [.c (.v (.int .u8 (c:Nat)))] (True) (.bool (dgB c)):=⟨λhp=>by
 refine aiE Tryz.func220 rfl ?_
 all_goals (repeat' ((try (conv=>whnf));first
  |(with_reducible refine aJ ?_)
  |(with_reducible refine aK ?_)
  |(with_reducible refine au (λ_=>?_) (λ_=>?_))
  |refine Ends.mk ?_))
 all_goals first
  |(refine bE ?_;rw [Bool.eq_iff_iff];simp only [dgB,Bool.or_eq_true,Bool.and_eq_true,decide_eq_true_eq,Bool.false_eq_true,iff_true,true_iff,iff_false,false_iff];omega)⟩
instance ahk(c:Nat):DenI Tryz.prog 177 [.c (.v (.int .u8 (c:Nat)))] (True) (.bool (QE c)):=⟨λhp=>by
 refine aiE Tryz.func177 rfl ?_
 all_goals (repeat' ((try (conv=>whnf));first
  |refine aG ?_
  |(with_reducible refine aJ ?_)
  |(with_reducible refine aK ?_)
  |(with_reducible refine au (λ_=>?_) (λ_=>?_))
  |refine OnB.mk (λ_=>?_) (λ_=>?_)
  |refine Ends.mk ?_))
 all_goals first
  |(refine bE ?_;rw [Bool.eq_iff_iff];simp only [QE,Bool.or_eq_true,Bool.and_eq_true,decide_eq_true_eq,Bool.false_eq_true,iff_true,true_iff,iff_false,false_iff];omega)
  |(refine bE ?_;unfold QE;simp_all;done)
  |(refine bE ?_;unfold QE;simp only [*,Bool.false_or];rw [Bool.eq_iff_iff];simp only [Bool.or_eq_true,decide_eq_true_eq];omega)⟩
instance ah9(s:ByteArray):DenI Tryz.prog 176 [.c (.v (.string s)),.int .i64 0,.c (.v (.func (.func 177) #[] #[]))] (s.size≤1000000) (.int .i64 (rnN s:Nat)):=⟨λhp=>by
 refine aiE Tryz.func176 rfl ?_
 all_goals first
  |((conv=>whnf);refine Sw.Loop.inv (α:=Nat) (λx=>[(0,.c (.v (.string s))),(1,.int .i64 (x:Nat)),(2,.c (.v (.func (.func 177) #[] #[])))]) (λx=>[]) (λx=>x≤s.size∧∀j<x,QE ((oH s).getD j 0)=true) (λx=>s.size-x) 0 ?_ ?_ ?_ (λx hx=>?_))
 all_goals (repeat' ((try (conv=>whnf));first
  |refine aG ?_
  |(with_reducible refine aJ ?_)
  |(with_reducible refine aK ?_)
  |(with_reducible refine au (λ_=>?_) (λ_=>?_))
  |refine OnB.mk (λ_=>?_) (λ_=>?_)
  |(with_reducible refine tN ?_ ?_)
  |refine Ends.mk ?_))
 all_goals (try refine Pr.mk ?_)
 all_goals (try simp only [Option.getD_some,Option.getD_none,Int.toNat_natCast,Int.toNat_zero] at *)
 all_goals first
  |omega
  |trivial
  |exact ⟨Nat.zero_le _,λj hj=>absurd hj (Nat.not_lt_zero _)⟩
  |((conv=>whnf);exact ⟨x+1,⟨⟨rfl,aX (by omega),rfl,trivial⟩,trivial,⟨by omega,dN hx.2 (by assumption)⟩,(by show s.size-(x+1)<s.size-x;omega)⟩⟩)
  |(refine iE ?_;rw [UF hx.1 hx.2 (λh=>by first|assumption|omega)];done)⟩
instance ahm(s:ByteArray):DenI Tryz.prog 132 [.c (.v (.string s))] (s.size≤1000000) (.bool (Gm s)):=⟨λhp=>by
 refine aiE Tryz.func132 rfl ?_
 all_goals (repeat' ((try (conv=>whnf));first
  |refine aG ?_
  |refine ak ?_ ?_
  |(with_reducible refine aJ ?_)
  |(with_reducible refine aK ?_)
  |(with_reducible refine au (λ_=>?_) (λ_=>?_))
  |refine OnB.mk (λ_=>?_) (λ_=>?_)
  |(with_reducible refine tN ?_ ?_)
  |refine Ends.mk ?_))
 all_goals (try refine Pr.mk ?_)
 all_goals (try simp only [Option.getD_some,Option.getD_none,Int.toNat_natCast,Int.toNat_zero] at *)
 all_goals first
  |omega
  |(have z:=Tc (by assumption);omega)
  |(refine bE ?_;have z:=Tc (by assumption);rw [abp z (by omega) (by assumption)];exact decide_eq_decide.2 (by omega))
  |(refine bE ?_;rw [Z4 (by first|exact .inl (WO (by assumption))|exact .inr (.inl (by omega))|exact .inr (.inr (by assumption)))];done)⟩
instance ahZ(l:LayD):DenI Tryz.prog 100 [.agg (dB l)] (l.name.size≤1000000) (.bool (AA l)):=⟨λhp=>by
 refine aiE Tryz.func100 rfl ?_
 all_goals (repeat' ((try (conv=>whnf));first
  |refine ak ?_ ?_
  |(with_reducible refine aJ ?_)
  |(with_reducible refine aK ?_)
  |(with_reducible refine au (λ_=>?_) (λ_=>?_))
  |refine OnB.mk (λ_=>?_) (λ_=>?_)
  |refine Ends.mk ?_))
 all_goals (try refine Pr.mk ?_)
 all_goals first
  |omega
  |(refine bE ?_;unfold AA;rw [Bool.eq_iff_iff];simp_all;done)
  |(refine bE ?_;unfold AA;rw [Bool.eq_iff_iff];simp_all;omega)⟩
instance ahV(l:LayD)(s:ByteArray):DenI Tryz.prog 134 [.agg (dB l),.c (.p [.v (.string s)])] (True) (.bool (eqS l.name s)):=⟨λhp=>by
 refine aiE Tryz.func134 rfl ?_
 all_goals (repeat' ((try (conv=>whnf));first
  |refine Ends.mk ?_))
 all_goals first
  |rfl⟩
instance ail(ls:List LayD)(s:ByteArray):DenI Tryz.prog 133 [.c (.sl 3 (ls.map dB)),.c (.fn 134 [.p [.v (.string s)]])] (ls.length≤1000) (.int .i64 (oh ls s)):=⟨λhp=>by
 refine aiE Tryz.func133 rfl ?_
 all_goals first
  |((conv=>whnf);refine Sw.Loop.inv (α:=Nat) (λk=>[(0,.c (.sl 3 (ls.map dB))),(1,.c (.fn 134 [.p [.v (.string s)]])),(6,.c (.sl 3 (ls.map dB))),(7,.int .i64 (ls.length:Nat)),(8,.int .i64 (k:Nat))]) (λk=>[]) (λk=>k≤ls.length∧∀j<k,eqS (ls.getD j L0).name s=false) (λk=>ls.length-k) 0 ?_ ?_ ?_ (λk hk=>?_))
 all_goals (repeat' ((try (conv=>whnf));first
  |refine aG ?_
  |(with_reducible refine au (λ_=>?_) (λ_=>?_))
  |refine OnB.mk (λ_=>?_) (λ_=>?_)
  |refine aN L0 ?_ ?_
  |refine Ends.mk ?_))
 all_goals (try refine Pr.mk ?_)
 all_goals (try simp only [List.length_map,Int.toNat_natCast] at *)
 all_goals first
  |omega
  |trivial
  |exact ⟨Nat.zero_le _,λj hj=>absurd hj (Nat.not_lt_zero _)⟩
  |((conv=>whnf);exact ⟨k+1,⟨⟨rfl,rfl,rfl,rfl,aX (by omega),trivial⟩,trivial,⟨by omega,dN hk.2 (by assumption)⟩,(by show ls.length-(k+1)<ls.length-k;omega)⟩⟩)
  |((with_reducible show aB _=_);rw [zI (x:=k) (by omega) hk.2 (by assumption)];rfl)
  |((with_reducible show aB _=_);have hxx:k=ls.length:=(by omega);subst hxx;rw [Ru hk.2];rfl)⟩
instance ahT(ls:List LayD)(s:ByteArray):DenI Tryz.prog 101 [.c (.sl 3 (ls.map dB)),.c (.v (.string s))] (ls.length≤1000) (.int .i64 (oh ls s)):=⟨λhp=>by
 refine aiE Tryz.func101 rfl ?_
 all_goals (repeat' ((try (conv=>whnf));first
  |refine ak ?_ ?_
  |refine Ends.mk ?_))
 all_goals (try refine Pr.mk ?_)
 all_goals first
  |omega
  |rfl⟩
instance ain(a:Rat):DenI Tryz.prog 182 [R a] (rz a≤1000) (R (a*D8)):=⟨λhp=>by
 have i_a:RzB a 1000:=⟨hp⟩
 all_goals refine aiE Tryz.func182 rfl ?_
 all_goals (repeat' ((try (conv=>whnf));first
  |refine ak ?_ ?_
  |refine Drw.mk (by kernel_rfl) ?_
  |refine Ends.mk ?_))
 all_goals (try refine Pr.mk ?_)
 all_goals first
  |(have z1:=FQ;exact ⟨by omega,Nat.le_trans z1 (by decide)⟩)
  |omega
  |rfl⟩
instance ab8(a:Rat):DenI Tryz.prog 135 [R a] (rz a≤12) (.bool (Az a)):=⟨λhp=>by
 have z1:=U2;have z2:=ZN hp;have hv:=vU a
 all_goals refine aiE Tryz.func135 rfl ?_
 all_goals (repeat' ((try (conv=>whnf));first
  |refine ak ?_ ?_
  |(with_reducible refine aJ ?_)
  |(with_reducible refine aK ?_)
  |(with_reducible refine au (λ_=>?_) (λ_=>?_))
  |refine OnB.mk (λ_=>?_) (λ_=>?_)
  |refine Drw.mk (by kernel_rfl) ?_
  |refine Ends.mk ?_))
 all_goals (try refine Pr.mk ?_)
 all_goals (try simp only [dU] at *)
 all_goals first
  |(exfalso;rename (!iO _ _ _ _)=true=>h;rw [vU] at h;cases h)
  |omega
  |(refine ⟨?_, ?_⟩<;>first|(rw [jv];omega)|omega)
  |(have e1:(lim a.num.natAbs).length≤rz a:=iM a;have e2:(lim (a.den:Int).natAbs).length≤rz a:=iR a;omega)
  |(refine bE ?_;unfold Az;simp only [*,not_true,not_false_iff,decide_true,decide_false,Bool.true_and,Bool.false_and,Bool.and_false];done)⟩
instance (priority:=50) aa6(r:Rq):DenI Tryz.prog 135 [.agg (QH r)] (CS r∧vR r=false) (.bool false):=⟨λhp=>by
 obtain ⟨hp1,hp2⟩:=hp;unfold vR at hp2;obtain ⟨hp3,hp4⟩:=hp1
 all_goals refine aiE Tryz.func135 rfl ?_
 all_goals (repeat' ((try (conv=>whnf));first
  |refine aG ?_
  |refine ak ?_ ?_
  |refine jr ?_ (λ_=>?_) (λ_=>?_)
  |(with_reducible refine aJ ?_)
  |(with_reducible refine aK ?_)
  |(with_reducible refine au (λ_=>?_) (λ_=>?_))
  |(with_reducible refine bG (λ_=>?_) (λ_=>?_))
  |refine OnB.mk (λ_=>?_) (λ_=>?_)
  |refine aU ?_ ?_
  |refine Drw.mk (by kernel_rfl) ?_
  |refine dH ?_ ?_
  |refine dF ?_ ?_
  |(with_reducible refine bH ?_ ?_)
  |(with_reducible refine bF ?_)
  |(with_reducible refine bM ?_)
  |refine Ends.mk ?_))
 all_goals (try refine Pr.mk ?_)
 all_goals first
  |omega
  |rfl
  |(exfalso;rename (!iO _ _ _ _)=false=>h;rw [hp2] at h;cases h)
  |exact ⟨by omega,by omega⟩
  |skip⟩
instance (priority:=2000) x_len(r:Rq):DenI Tryz.prog 135 [.agg (QH r)] (CS r) (.bool (iq r)):=⟨λhp=>by
 cases v:vR r with
 |false =>
  have h:=(aa6 r).den ⟨hp,v⟩;have e:iq r=false:=by unfold iq;rw [v];rfl
  rw [e];exact h
 |true =>
  have e:=xI v;have e2:iq r=Az (qR r):=by unfold iq;rw [v];rfl
  have hz:rz (qR r)≤12:=Ci (e ▸ hp);have h:=(ab8 (qR r)).den hz;rw [e2];generalize qR r=q at e h;subst e
  exact h⟩
instance (priority:=2000) ahA(r:Rq):DenI Tryz.prog 49 [.agg (QH r)] (vR r=true) (.int .i64 (bI (qR r))):=⟨λv=>by
 have e:=xI v;have h:=(inferInstance:DenI Tryz.prog 49 [R (qR r)] _ (.int .i64 (bI (qR r)))).den trivial;generalize qR r=q at e h ⊢;subst e
 exact h⟩
instance (priority:=50) acn(ly:ByteArray)(pts:List (Rq × Rq))(rd:Rq):DenI Tryz.prog 102 [.agg [.v (.int .i64 1),.v (.string ly),.sl 8 (pts.map nZ),.v (.bool rd.a),bJ rd.l,.v (.bool rd.b),bJ rd.m]] (rE ⟨1,ly,pts,rd⟩) (.bool (kG ⟨1,ly,pts,rd⟩)):=⟨λhp=>by
 have hpl:pts.length≤5:=hp.2.2.1;have hpr:CS rd:=hp.2.1
 all_goals refine aiE Tryz.func102 rfl ?_
 all_goals (repeat' ((try (conv=>whnf));first
  |refine aG ?_
  |refine ak ?_ ?_
  |refine jr ?_ (λ_=>?_) (λ_=>?_)
  |(with_reducible refine aJ ?_)
  |(with_reducible refine aK ?_)
  |(with_reducible refine au (λ_=>?_) (λ_=>?_))
  |(with_reducible refine bG (λ_=>?_) (λ_=>?_))
  |refine OnB.mk (λ_=>?_) (λ_=>?_)
  |refine aU ?_ ?_
  |refine Drw.mk (by kernel_rfl) ?_
  |refine dH ?_ ?_
  |refine dF ?_ ?_
  |(with_reducible refine bH ?_ ?_)
  |(with_reducible refine bF ?_)
  |(with_reducible refine bM ?_)
  |refine aN ru ?_ ?_
  |refine Ends.mk ?_))
 all_goals (try refine Pr.mk ?_)
 all_goals first
  |((conv=>whnf);refine Sw.Loop.inv (α:=Nat) (λx=>[(1,.ptr 1 0),(25,.c (.sl 8 (pts.map nZ))),(26,.int .i64 (pts.length:Nat)),(27,.int .i64 (x:Nat))]) (λx=>[(1,.var [.v (.int .i64 1),.v (.string ly),.sl 8 (pts.map nZ),.v (.bool rd.a),bJ rd.l,.v (.bool rd.b),bJ rd.m])]) (λx=>x≤pts.length∧∀j<x,(iq (pts.getD j ru).1 && iq (pts.getD j ru).2)=true) (λx=>pts.length-x) 0 ?_ ?_ ?_ (λx hx=>?_))
  |skip
 all_goals (repeat' ((try (conv=>whnf));first
  |refine aG ?_
  |refine ak ?_ ?_
  |refine jr ?_ (λ_=>?_) (λ_=>?_)
  |(with_reducible refine aJ ?_)
  |(with_reducible refine aK ?_)
  |(with_reducible refine au (λ_=>?_) (λ_=>?_))
  |(with_reducible refine bG (λ_=>?_) (λ_=>?_))
  |refine OnB.mk (λ_=>?_) (λ_=>?_)
  |refine aU ?_ ?_
  |refine Drw.mk (by kernel_rfl) ?_
  |refine dH ?_ ?_
  |refine dF ?_ ?_
  |(with_reducible refine bH ?_ ?_)
  |(with_reducible refine bF ?_)
  |(with_reducible refine bM ?_)
  |refine aN ru ?_ ?_
  |refine Ends.mk ?_))
 all_goals (try refine Pr.mk ?_)
 all_goals (try simp only [List.length_map,Int.toNat_natCast] at *)
 all_goals (try simp only [dU] at *)
 all_goals first
  |(exfalso;omega)
  |omega
  |trivial
  |exact ⟨Nat.zero_le _,λj hj=>absurd hj (Nat.not_lt_zero _)⟩
  |exact (lT hp (by show _<pts.length;omega)).1
  |exact (lT hp (by show _<pts.length;omega)).2
  |exact hpr
  |exact Fz (by assumption)
  |exact ⟨rfl,rfl,by simp only [List.length_map];rfl,rfl,trivial⟩
  |((with_reducible show aB _=_);refine bE ?_;rw [nP (by simp only [];omega)];done)
  |((with_reducible show aB _=_);refine bE ?_;rw [uo (x:=x) (by show x<pts.length;omega) (by simp_all;done)];done)
  |((with_reducible show aB _=_);refine bE ?_;have hxx:x=pts.length:=(by omega);subst hxx;rw [pW (e:=⟨1,ly,pts,rd⟩) (.inl ⟨rfl,by show pts.length=2;omega⟩) hx.2];simp_all;done)
  |((conv=>whnf);exact ⟨x+1,⟨⟨rfl,rfl,rfl,aX (by omega),trivial⟩,⟨rfl,trivial⟩,⟨by omega,dN hx.2 (by simp_all;done)⟩,(by show pts.length-(x+1)<pts.length-x;omega)⟩⟩)
  |skip⟩
instance (priority:=50) aap(ly:ByteArray)(pts:List (Rq × Rq))(rd:Rq):DenI Tryz.prog 102 [.agg [.v (.int .i64 2),.v (.string ly),.sl 8 (pts.map nZ),.v (.bool rd.a),bJ rd.l,.v (.bool rd.b),bJ rd.m]] (rE ⟨2,ly,pts,rd⟩) (.bool (kG ⟨2,ly,pts,rd⟩)):=⟨λhp=>by
 have hpl:pts.length≤5:=hp.2.2.1;have hpr:CS rd:=hp.2.1
 all_goals refine aiE Tryz.func102 rfl ?_
 all_goals (repeat' ((try (conv=>whnf));first
  |refine aG ?_
  |refine ak ?_ ?_
  |refine jr ?_ (λ_=>?_) (λ_=>?_)
  |(with_reducible refine aJ ?_)
  |(with_reducible refine aK ?_)
  |(with_reducible refine au (λ_=>?_) (λ_=>?_))
  |(with_reducible refine bG (λ_=>?_) (λ_=>?_))
  |refine OnB.mk (λ_=>?_) (λ_=>?_)
  |refine aU ?_ ?_
  |refine Drw.mk (by kernel_rfl) ?_
  |refine dH ?_ ?_
  |refine dF ?_ ?_
  |(with_reducible refine bH ?_ ?_)
  |(with_reducible refine bF ?_)
  |(with_reducible refine bM ?_)
  |refine aN ru ?_ ?_
  |refine Ends.mk ?_))
 all_goals (try refine Pr.mk ?_)
 all_goals first
  |((conv=>whnf);refine Sw.Loop.inv (α:=Nat) (λx=>[(1,.ptr 1 0),(25,.c (.sl 8 (pts.map nZ))),(26,.int .i64 (pts.length:Nat)),(27,.int .i64 (x:Nat))]) (λx=>[(1,.var [.v (.int .i64 2),.v (.string ly),.sl 8 (pts.map nZ),.v (.bool rd.a),bJ rd.l,.v (.bool rd.b),bJ rd.m])]) (λx=>x≤pts.length∧∀j<x,(iq (pts.getD j ru).1 && iq (pts.getD j ru).2)=true) (λx=>pts.length-x) 0 ?_ ?_ ?_ (λx hx=>?_))
  |skip
 all_goals (repeat' ((try (conv=>whnf));first
  |refine aG ?_
  |refine ak ?_ ?_
  |refine jr ?_ (λ_=>?_) (λ_=>?_)
  |(with_reducible refine aJ ?_)
  |(with_reducible refine aK ?_)
  |(with_reducible refine au (λ_=>?_) (λ_=>?_))
  |(with_reducible refine bG (λ_=>?_) (λ_=>?_))
  |refine OnB.mk (λ_=>?_) (λ_=>?_)
  |refine aU ?_ ?_
  |refine Drw.mk (by kernel_rfl) ?_
  |refine dH ?_ ?_
  |refine dF ?_ ?_
  |(with_reducible refine bH ?_ ?_)
  |(with_reducible refine bF ?_)
  |(with_reducible refine bM ?_)
  |refine aN ru ?_ ?_
  |refine Ends.mk ?_))
 all_goals (try refine Pr.mk ?_)
 all_goals (try simp only [List.length_map,Int.toNat_natCast] at *)
 all_goals (try simp only [dU] at *)
 all_goals first
  |(exfalso;omega)
  |omega
  |trivial
  |exact ⟨Nat.zero_le _,λj hj=>absurd hj (Nat.not_lt_zero _)⟩
  |exact (lT hp (by show _<pts.length;omega)).1
  |exact (lT hp (by show _<pts.length;omega)).2
  |exact hpr
  |exact Fz (by assumption)
  |exact ⟨rfl,rfl,by simp only [List.length_map];rfl,rfl,trivial⟩
  |((with_reducible show aB _=_);refine bE ?_;rw [nP (by simp only [];omega)];done)
  |((with_reducible show aB _=_);refine bE ?_;rw [uo (x:=x) (by show x<pts.length;omega) (by simp_all;done)];done)
  |((with_reducible show aB _=_);refine bE ?_;have hxx:x=pts.length:=(by omega);subst hxx;rw [pW (e:=⟨2,ly,pts,rd⟩) (.inr (.inl ⟨rfl,by show pts.length=3;omega⟩)) hx.2];simp_all;done)
  |((conv=>whnf);exact ⟨x+1,⟨⟨rfl,rfl,rfl,aX (by omega),trivial⟩,⟨rfl,trivial⟩,⟨by omega,dN hx.2 (by simp_all;done)⟩,(by show pts.length-(x+1)<pts.length-x;omega)⟩⟩)
  |skip⟩
instance (priority:=50) abY(ly:ByteArray)(pts:List (Rq × Rq))(rd:Rq):DenI Tryz.prog 102 [.agg [.v (.int .i64 3),.v (.string ly),.sl 8 (pts.map nZ),.v (.bool rd.a),bJ rd.l,.v (.bool rd.b),bJ rd.m]] (rE ⟨3,ly,pts,rd⟩) (.bool (kG ⟨3,ly,pts,rd⟩)):=⟨λhp=>by
 have hpl:pts.length≤5:=hp.2.2.1;have hpr:CS rd:=hp.2.1
 all_goals refine aiE Tryz.func102 rfl ?_
 all_goals (repeat' ((try (conv=>whnf));first
  |refine aG ?_
  |refine ak ?_ ?_
  |refine jr ?_ (λ_=>?_) (λ_=>?_)
  |(with_reducible refine aJ ?_)
  |(with_reducible refine aK ?_)
  |(with_reducible refine au (λ_=>?_) (λ_=>?_))
  |(with_reducible refine bG (λ_=>?_) (λ_=>?_))
  |refine OnB.mk (λ_=>?_) (λ_=>?_)
  |refine aU ?_ ?_
  |refine Drw.mk (by kernel_rfl) ?_
  |refine dH ?_ ?_
  |refine dF ?_ ?_
  |(with_reducible refine bH ?_ ?_)
  |(with_reducible refine bF ?_)
  |(with_reducible refine bM ?_)
  |refine aN ru ?_ ?_
  |refine Ends.mk ?_))
 all_goals (try refine Pr.mk ?_)
 all_goals first
  |((conv=>whnf);refine Sw.Loop.inv (α:=Nat) (λx=>[(1,.ptr 1 0),(25,.c (.sl 8 (pts.map nZ))),(26,.int .i64 (pts.length:Nat)),(27,.int .i64 (x:Nat))]) (λx=>[(1,.var [.v (.int .i64 3),.v (.string ly),.sl 8 (pts.map nZ),.v (.bool rd.a),bJ rd.l,.v (.bool rd.b),bJ rd.m])]) (λx=>x≤pts.length∧∀j<x,(iq (pts.getD j ru).1 && iq (pts.getD j ru).2)=true) (λx=>pts.length-x) 0 ?_ ?_ ?_ (λx hx=>?_))
  |skip
 all_goals (repeat' ((try (conv=>whnf));first
  |refine aG ?_
  |refine ak ?_ ?_
  |refine jr ?_ (λ_=>?_) (λ_=>?_)
  |(with_reducible refine aJ ?_)
  |(with_reducible refine aK ?_)
  |(with_reducible refine au (λ_=>?_) (λ_=>?_))
  |(with_reducible refine bG (λ_=>?_) (λ_=>?_))
  |refine OnB.mk (λ_=>?_) (λ_=>?_)
  |refine aU ?_ ?_
  |refine Drw.mk (by kernel_rfl) ?_
  |refine dH ?_ ?_
  |refine dF ?_ ?_
  |(with_reducible refine bH ?_ ?_)
  |(with_reducible refine bF ?_)
  |(with_reducible refine bM ?_)
  |refine aN ru ?_ ?_
  |refine Ends.mk ?_))
 all_goals (try refine Pr.mk ?_)
 all_goals (try simp only [List.length_map,Int.toNat_natCast] at *)
 all_goals (try simp only [dU] at *)
 all_goals first
  |(exfalso;omega)
  |omega
  |trivial
  |exact ⟨Nat.zero_le _,λj hj=>absurd hj (Nat.not_lt_zero _)⟩
  |exact (lT hp (by show _<pts.length;omega)).1
  |exact (lT hp (by show _<pts.length;omega)).2
  |exact hpr
  |exact Fz (by assumption)
  |exact ⟨rfl,rfl,by simp only [List.length_map];rfl,rfl,trivial⟩
  |((with_reducible show aB _=_);refine bE ?_;rw [nP (by simp only [];omega)];done)
  |((with_reducible show aB _=_);refine bE ?_;rw [uo (x:=x) (by show x<pts.length;omega) (by simp_all;done)];done)
  |((with_reducible show aB _=_);refine bE ?_;have hxx:x=pts.length:=(by omega);subst hxx;rw [pW (e:=⟨3,ly,pts,rd⟩) (.inr (.inr ⟨rfl,by show pts.length=1;omega⟩)) hx.2];simp_all;done)
  |((conv=>whnf);exact ⟨x+1,⟨⟨rfl,rfl,rfl,aX (by omega),trivial⟩,⟨rfl,trivial⟩,⟨by omega,dN hx.2 (by simp_all;done)⟩,(by show pts.length-(x+1)<pts.length-x;omega)⟩⟩)
  |skip⟩
instance (priority:=50) acy(kd:Int)(ly:ByteArray)(pts:List (Rq × Rq))(rd:Rq):DenI Tryz.prog 102 [.agg [.v (.int .i64 kd),.v (.string ly),.sl 8 (pts.map nZ),.v (.bool rd.a),bJ rd.l,.v (.bool rd.b),bJ rd.m]] (kd<1∨3<kd) (.bool (kG ⟨kd,ly,pts,rd⟩)):=⟨λhp=>by
 refine aiE Tryz.func102 rfl ?_
 all_goals (repeat' ((try (conv=>whnf));first
  |refine aG ?_
  |refine ak ?_ ?_
  |refine jr ?_ (λ_=>?_) (λ_=>?_)
  |(with_reducible refine aJ ?_)
  |(with_reducible refine aK ?_)
  |(with_reducible refine au (λ_=>?_) (λ_=>?_))
  |(with_reducible refine bG (λ_=>?_) (λ_=>?_))
  |refine OnB.mk (λ_=>?_) (λ_=>?_)
  |refine aU ?_ ?_
  |refine Drw.mk (by kernel_rfl) ?_
  |refine dH ?_ ?_
  |refine dF ?_ ?_
  |(with_reducible refine bH ?_ ?_)
  |(with_reducible refine bF ?_)
  |(with_reducible refine bM ?_)
  |refine Ends.mk ?_))
 all_goals (try refine Pr.mk ?_)
 all_goals first
  |(exfalso;omega)
  |((with_reducible show aB _=_);refine bE ?_;rw [nP (by simp only [];omega)];done)
  |skip⟩
instance (priority:=2000) aho(e:EntR):DenI Tryz.prog 102 [.agg (dL e)] (rE e) (.bool (kG e)):=⟨λhp=>by
 obtain ⟨kd,ly,pts,rd⟩:=e;have hk:(kd<1∨3<kd)∨kd=1∨kd=2∨kd=3:=by omega
 rcases hk with hk|rfl|rfl|rfl
 ·exact (acy kd ly pts rd).den hk
 ·exact (acn ly pts rd).den hp
 ·exact (aap ly pts rd).den hp
 ·exact (abY ly pts rd).den hp⟩
instance aik(ls:List LayD)(es:List EntR)(e:EntR):DenI Tryz.prog 64 [.agg [(.sl 3 (ls.map dB)),.sl 7 (es.map dL)],.agg (dL e)] (ls.length≤1000∧rE e) (.int .i64 (ZC ls e)):=⟨λhp=>by
 obtain ⟨hp1,hp2⟩:=hp
 all_goals refine aiE Tryz.func64 rfl ?_
 all_goals (repeat' ((try (conv=>whnf));first
  |refine ak ?_ ?_
  |(with_reducible refine au (λ_=>?_) (λ_=>?_))
  |refine OnB.mk (λ_=>?_) (λ_=>?_)
  |refine Ends.mk ?_))
 all_goals (try refine Pr.mk ?_)
 all_goals first
  |assumption
  |(refine iE ?_;unfold ZC;rw [if_pos (by assumption)];done)
  |(refine iE ?_;unfold ZC;rw [if_neg (by assumption),if_pos (by simp_all;done)];done)
  |(refine iE ?_;unfold ZC;rw [if_neg (by assumption),if_neg (by simp_all;done)];done)⟩
instance afq(ls:List LayD):DenI Tryz.prog 63 [.c (.sl 3 (ls.map dB))] (0<ls.length∧ls.length≤1000∧(∀l∈ls,l.name.size≤1000)) (.int .i64 (uU ls)):=⟨λhp=>by
 obtain ⟨hp1,hp2,hp3⟩:=hp;have hw:(IntKind.i64.wrap ((ls.length:Int)-1))=((ls.length-1:Nat):Int):=by rw [bY (by omega) (by omega)];omega
 all_goals refine aiE Tryz.func63 rfl ?_
 all_goals (repeat' ((try (conv=>whnf));first
  |refine ak ?_ ?_
  |(with_reducible refine au (λ_=>?_) (λ_=>?_))
  |refine OnB.mk (λ_=>?_) (λ_=>?_)
  |refine aN L0 ?_ ?_
  |refine Ends.mk ?_))
 all_goals (try refine Pr.mk ?_)
 all_goals (try simp only [List.length_map,Int.toNat_natCast] at *)
 all_goals (try simp only [hw,Int.toNat_natCast] at *)
 all_goals first
  |omega
  |(have z:=ZM hp3 (ls.length-1);omega)
  |(refine iE ?_;unfold uU;rw [if_pos (by simp_all;done)];done)
  |(refine iE ?_;unfold uU;rw [if_neg (by simp_all;done),if_pos (by assumption)];done)
  |(refine iE ?_;unfold uU;rw [if_neg (by simp_all;done),if_neg (by assumption)];done)⟩
instance (priority:=2000) ahq(ls:List LayD)(a b:Nat):DenI Tryz.prog 63 [.c (.sl 3 (((ls.map dB).take b).drop a))] (a=0∧0<b∧b≤ls.length∧ls.length≤1000∧(∀l∈ls,l.name.size≤1000)) (.int .i64 (uU (ls.take b))):=⟨λ⟨h1,h2,h3,h4,h5⟩=>by
 have h:=(afq (ls.take b)).den ⟨by rw [List.length_take];omega,by rw [List.length_take];omega,λl hl=>h5 l (List.mem_of_mem_take hl)⟩;rw [List.map_take] at h;subst h1
 exact h⟩
instance acF(ls:List LayD)(es:List EntR):DenI Tryz.prog 20 [.agg [(.sl 3 (ls.map dB)),.sl 7 (es.map dL)]] (ls.length≤1000∧es.length≤1000∧(∀l∈ls,l.name.size≤1000)∧∀e∈es,rE e) (.int .i64 (jf ls es)):=⟨λhp=>by
 obtain ⟨hp1,hp2,hp3,hp4⟩:=hp
 all_goals refine aiE Tryz.func20 rfl ?_
 all_goals (repeat' ((try (conv=>whnf));first
  |(with_reducible refine aJ ?_)
  |(with_reducible refine aK ?_)
  |(with_reducible refine au (λ_=>?_) (λ_=>?_))
  |refine Ends.mk ?_))
 all_goals (try simp only [List.length_map,Int.toNat_natCast] at *)
 all_goals first
  |((conv=>whnf);refine Sw.Loop.inv (α:=Nat) (λx=>[(1,.ptr 1 0),(20,.int .i64 (ls.length:Nat)),(21,.int .i64 (x:Nat))]) (λx=>[(1,.var [(.sl 3 (ls.map dB)),.sl 7 (es.map dL)])]) (λx=>x≤ls.length∧∀j<x,oP ls j=none) (λx=>ls.length-x) 0 ?_ ?_ ?_ (λx hx=>?_))
  |skip
 all_goals (repeat' ((try (conv=>whnf));first
  |refine ak ?_ ?_
  |(with_reducible refine au (λ_=>?_) (λ_=>?_))
  |(with_reducible refine bG (λ_=>?_) (λ_=>?_))
  |refine dF ?_ ?_
  |refine Ends.mk ?_))
 all_goals (try refine Pr.mk ?_)
 all_goals (try simp only [List.length_map,Int.toNat_natCast] at *)
 all_goals first
  |((conv=>whnf);refine Sw.Loop.inv (α:=Nat) (λy=>[(1,.ptr 1 0),(35,.c (.sl 7 (es.map dL))),(36,.int .i64 (es.length:Nat)),(37,.int .i64 (y:Nat))]) (λy=>[(1,.var [(.sl 3 (ls.map dB)),.sl 7 (es.map dL)])]) (λy=>y≤es.length∧∀j<y,nY ls es j=none) (λy=>es.length-y) 0 ?_ ?_ ?_ (λy hy=>?_))
  |skip
 all_goals (repeat' ((try (conv=>whnf));first
  |refine ak ?_ ?_
  |(with_reducible refine au (λ_=>?_) (λ_=>?_))
  |(with_reducible refine bG (λ_=>?_) (λ_=>?_))
  |refine aN rU ?_ ?_
  |refine Ends.mk ?_))
 all_goals (try refine Pr.mk ?_)
 all_goals (try simp only [List.length_map,Int.toNat_natCast] at *)
 all_goals (try simp only [Option.getD_some,Option.getD_none,Int.toNat_natCast,Int.toNat_zero] at *)
 all_goals (try simp (disch:=omega) only [bY] at *)
 all_goals (try (have ht:((x:Int)+1).toNat=x+1:=(by omega);simp only [ht] at *;clear ht))
 all_goals first
  |omega
  |trivial
  |exact ⟨Nat.zero_le _,λj hj=>absurd hj (Nat.not_lt_zero _)⟩
  |(refine ⟨by omega,by omega,by omega,by omega, ?_⟩;intro h;first|exact h|rfl|(cases h))
  |exact ⟨trivial,by omega,by omega,by omega,hp3⟩
  |exact ⟨by omega,ZA hp4 (by omega)⟩
  |(refine iE ?_;rw [Oo (by omega)];done)
  |(refine iE ?_;rw [Fe (by omega) (by omega) hx.2 ((U7 (by omega)).2 (by assumption))];done)
  |(refine iE ?_;have hxx:x=ls.length:=(by omega);subst hxx;rw [Fv (by omega) hx.2 (by omega) hy.2 (RV.2 (by assumption))];done)
  |(refine iE ?_;have hxx:x=ls.length:=(by omega);subst hxx;have hyy:y=es.length:=(by omega);subst hyy;rw [KQ (by omega) hx.2 hy.2];done)
  |((conv=>whnf);exact ⟨y+1,⟨⟨rfl,rfl,rfl,aX (by omega),trivial⟩,⟨rfl,trivial⟩,⟨by omega,dN hy.2 (RV.1 (by assumption))⟩,(by show es.length-(y+1)<es.length-y;omega)⟩⟩)
  |((conv=>whnf);exact ⟨x+1,⟨⟨rfl,rfl,aX (by omega),trivial⟩,⟨rfl,trivial⟩,⟨by omega,dN hx.2 ((U7 (by omega)).1 (by assumption))⟩,(by show ls.length-(x+1)<ls.length-x;omega)⟩⟩)⟩
def Kz:Tab:=(25,.row 2 [(0,1,false),(1,1,false)] [.v (.slice none 0 0),.v (.slice none 0 0)]) :: (2000000000,.flag) :: acO
theorem tH:dR Tryz.prog Kz=true:=by kernel_rfl
def aa9:Go.Shelf.Ren:=⟨λn=>if n=41 then 53 else n,λn=>if n=22 then 22 else if n=23 then 89 else n,id⟩
theorem aaq:Go.Proofs.SlLaysE0.n41 Tryz.prog aa9 where
 mixed:=fF
 f41:=⟨ "slices.Clone[[]swarf/api.LayerDef,swarf/api.LayerDef]",by decide,Eq.trans Tryz.func53 (congrArg some (Eq.refl _))⟩
 t4:=Tryz.underlying4
 a4:=Tryz.isAgg4
 z4:=Tryz.sizeOf4
 v4:=Tryz.zeroValue4
 t22:=Tryz.underlying22
 a22:=Tryz.isAgg22
 z22:=Tryz.sizeOf22
 v22:=Tryz.zeroValue22
theorem WU:∃i0,Tryz.prog.info? 89=some i0∧i0.zero=some (.agg #[.string ByteArray.empty,.int .i64 0,.int .i64 0])∧i0.size=3∧i0.bytes=32:=info_parts (by kernel_rfl)
instance aij(es:List (List Cell)):DenI Tryz.prog 53 [.c (.sl 3 es)] (es.length≤1000000) (.c (.sl 3 es)):=⟨λhp=>by
 obtain ⟨i0,h1,h2,h3,h4⟩:=WU
 exact Pv aaq (by kernel_rfl) i0 _ h1 h2 h3 (by omega) rfl (by decide) Tryz.sizeOf89 hp⟩
theorem zD(es:List Ent):(es.map fV).map dL=es.map bZ:=by
 rw [List.map_map];exact List.map_congr_left λe _=>U3 e
instance (priority:=2000) abG(ls:List LayD)(es:List Ent):DenI Tryz.prog 20 [.agg [(.sl 3 (ls.map dB)),.sl 7 (es.map bZ)]] (ls.length≤1000∧es.length≤1000∧(∀l∈ls,l.name.size≤1000)∧∀e∈es,rE (fV e)) (.int .i64 (jf ls (es.map fV))):=⟨λ⟨h1,h2,h3,h4⟩=>by
 have h:=(acF ls (es.map fV)).den ⟨h1,by rw [List.length_map];exact h2,h3,λe he=>by obtain ⟨x,hx,rfl⟩:=List.mem_map.1 he;exact h4 x hx⟩;rw [zD] at h
 exact h⟩
set_option maxHeartbeats 16000000 in
theorem Wq(ls:List LayD)(es:List Ent)(tol:Rat)(h1:ls.length≤1000)(h2:(∀l∈ls,l.name.size≤1000))(h3:es.length≤12)(h4:∀e∈es,okV e)(h5:∀e∈es,rE (fV e))(h6n:rz tol≤12)(h7:¬tol<0)(h8:jf ls (es.map fV)=0):
 Den Tryz.prog 13 [.agg [(.sl 3 (ls.map dB)),.sl 7 (es.map bZ)],R tol] (.tup [.agg [(.sl 3 (ls.map dB)),.sl 7 ((aT (tol*tol) es).es.map bZ)],.c (.sl 19 ((aT (tol*tol) es).cs.map vZ)),.int .i64 0]):=by
 haveI i_v:DenI Tryz.prog 20 [.agg [(.sl 3 (ls.map dB)),.sl 7 (es.map bZ)]] (ls.length≤1000∧es.length≤1000∧(∀l∈ls,l.name.size≤1000)∧∀e∈es,rE (fV e)) (.int .i64 0):=⟨λhp=>by have:=(abG ls es).den hp;rwa [h8] at this⟩
 have hz1:(dA (tol*tol) 0 [] es).es.zipIdx.length≤12:=by have:=LU tol es;unfold jZ at this;omega
 have hz2:∀x∈(dA (tol*tol) 0 [] es).es.zipIdx,okV x.1:=Zb (tol:=tol) h4;have hk1:=Nat.le_trans (LC tol es) h3;have hk2:=ZW (tol:=tol) h4;have hl1:=Nat.le_trans (Kw tol es) h3;have hl2:=adz (tol:=tol) h4;have hr:=NW (tol:=tol) h4;have hr1:(dA (tol*tol) 0 [] es).cs.length≤24:=by have:=(hr 0).1;omega
 have hr2:(qP (dA (tol*tol) 0 [] es).es.zipIdx).length≤12:=by have:=(hr 0).2.1;unfold jZ at this;omega
 have hr3:=zU (jL tol es) (jL tol es).length (Nat.le_refl _);rw [NP] at hr3;refine Den.of ⟨by kernel_rfl,λw X vs ho hX hl hR=>?_⟩ rfl
 haveI:WOk Tryz.prog w:=⟨ho⟩
 refine enter Tryz.func13 rfl rfl (by rw [hl];rfl) λa hF=>?_
 have hc:=uD (N:=90) hX hl hR hF;refine Lp (τ:=Kz) tH fF 9 _ (QA:=λz e b=>z=.normal∧SubE [(4,.ptr 4 0),(9,.gs 2000030 ((GL tol es (jK tol es).length).map vZ).length),(11,.gs 100 ((jL tol es).map kH).length),(14,.ptr 14 0)] e∧SubB [(4,.var [.v (.slice none 0 0),.v (.slice none 0 0)]),(14,.var [(.sl 3 (ls.map dB)),.v (.slice none 0 0)]),(2000030,.grow 47 19 ((GL tol es (jK tol es).length).map vZ)),(100,.grow 86 8 ((jL tol es).map kH))] b) (by kernel_rfl) ?_ hc (λe b a w hq hc2=>?_) (λx e b a w hx hq hc=>absurd hq.1 hx)
 case refine_1 =>
  clear hc hF hR hl hX
  all_goals (repeat' ((try (conv=>whnf));first
   |refine aG ?_
   |refine ak ?_ ?_
   |(with_reducible refine au (λ_=>?_) (λ_=>?_))
   |(with_reducible refine bG (λ_=>?_) (λ_=>?_))
   |refine aU ?_ ?_))
  all_goals (try refine Pr.mk ?_)
  all_goals (try simp only [List.length_map,Int.toNat_natCast] at *)
  all_goals first
   |((conv=>whnf);refine Sw.Loop.ghost 11 100 86 8 ?_ rfl rfl rfl (by decide);refine Sw.Loop.inv (α:=Nat) (λx=>[(2,.ptr 2 0),(4,.ptr 4 0),(8,.c (.sl 8 ((jK tol es).map kH))),(42,.c (.sl 1 ((fK ((jK tol es).map (·.1))).map bC))),(43,.int .i64 ((jK tol es).length:Nat)),(44,.int .i64 (x:Nat)),(9,.gs 2000030 ((GL tol es x).map vZ).length),(11,.gs 100 ((JJ (jK tol es) x).map kH).length)]) (λx=>[(2,.var [(.sl 3 (ls.map dB)),.sl 7 (es.map bZ)]),(4,.var [.v (.slice none 0 0),.v (.slice none 0 0)]),(2000030,.grow 47 19 ((GL tol es x).map vZ)),(100,.grow 86 8 ((JJ (jK tol es) x).map kH))]) (λx=>x≤(jK tol es).length) (λx=>(jK tol es).length-x) 0 ?_ ?_ ?_ (λx hx=>?_))
   |skip
  all_goals (repeat' ((try (conv=>whnf));first
   |refine ak ?_ ?_
   |(with_reducible refine au (λ_=>?_) (λ_=>?_))
   |refine OnB.mk (λ_=>?_) (λ_=>?_)
   |refine aU ?_ ?_
   |refine aN N0 ?_ ?_
   |refine aN false ?_ ?_))
  all_goals (try refine Pr.mk ?_)
  all_goals (try simp only [List.length_map,Int.toNat_natCast] at *)
  all_goals (try simp only [dU] at *)
  all_goals first
   |(exfalso;rename ¬True=>h;exact h trivial)
   |(exfalso;rename tol<0=>hx;exact h7 hx)
   |((with_reducible show (_:Nat)=_);rfl)
   |omega
   |exact ⟨h6n,h3,λe he=>(h4 e he).2⟩
   |exact ⟨h1,by omega,h2,h5⟩
   |exact ⟨hz1,hz2⟩
   |exact ⟨hk1,hk2⟩
   |((with_reducible show (_:Nat)≤_);have hrx:=(hr x).2.2;have hlx:=(EK (jK tol es) x).1;simp only [List.length_append,List.length_map,List.length_cons,List.length_nil];omega)
   |((with_reducible show (_:Nat)≤_);simp only [List.length_append,List.length_map,List.length_cons,List.length_nil];omega)
   |((with_reducible show SubE _ _);exact ⟨rfl,rfl,rfl,rfl,(by show some (AV.int .i64 _)=some (AV.int .i64 _);rw [show (fK (List.map (λx=>x.fst) (sG (dA (tol*tol) 0 [] es).es.zipIdx))).length=(jK tol es).length from by rw [jR,List.length_map];rfl]),rfl,(by show some (AV.gs _ _)=some (AV.gs _ _);simp only [Zn,List.length_append,List.length_map,List.length_cons,List.length_nil];rfl),rfl,trivial⟩)
   |(have hkr:(fK (List.map (λx=>x.fst) (jK tol es))).length=(jK tol es).length:=(by rw [jR,List.length_map]);omega)
   |((with_reducible show SubB _ _);exact ⟨rfl,rfl,(by show some _=some _;simp only [Zn,List.map_append,List.map_cons,List.map_nil,List.append_nil];rfl),rfl,trivial⟩)
   |(obtain ⟨h9,h10⟩:=acH (tol:=tol) (es:=es) (x:=x) (by omega) (by assumption);(conv=>whnf);exact ⟨x+1,⟨⟨rfl,rfl,rfl,rfl,rfl,aX (by omega),(by (simp only [h9,h10,List.map_append,List.map_cons,List.map_nil,List.append_nil,List.length_append,List.length_map,List.length_cons,List.length_nil]);(first|done|rfl)),(by (simp only [h9,h10,List.map_append,List.map_cons,List.map_nil,List.append_nil,List.length_append,List.length_map,List.length_cons,List.length_nil]);(first|done|rfl)),trivial⟩,⟨rfl,rfl,(by (simp only [h9,h10,List.map_append,List.map_cons,List.map_nil,List.append_nil]);(first|done|rfl)),(by (simp only [h9,h10,List.map_append,List.map_cons,List.map_nil,List.append_nil]);(first|done|rfl)),trivial⟩,by omega,(by show (jK tol es).length-(x+1)<(jK tol es).length-x;omega)⟩⟩)
   |(obtain ⟨h9,h10⟩:=acK (tol:=tol) (es:=es) (x:=x) (by omega) (by assumption);(conv=>whnf);exact ⟨x+1,⟨⟨rfl,rfl,rfl,rfl,rfl,aX (by omega),(by (simp only [h9,h10,List.map_append,List.map_cons,List.map_nil,List.append_nil,List.length_append,List.length_map,List.length_cons,List.length_nil]);(first|done|rfl)),(by (simp only [h9,h10,List.map_append,List.map_cons,List.map_nil,List.append_nil,List.length_append,List.length_map,List.length_cons,List.length_nil]);(first|done|rfl)),trivial⟩,⟨rfl,rfl,(by (simp only [h9,h10,List.map_append,List.map_cons,List.map_nil,List.append_nil]);(first|done|rfl)),(by (simp only [h9,h10,List.map_append,List.map_cons,List.map_nil,List.append_nil]);(first|done|rfl)),trivial⟩,by omega,(by show (jK tol es).length-(x+1)<(jK tol es).length-x;omega)⟩⟩)
   |(have hxx:x=(jK tol es).length:=(by omega);subst hxx;(conv=>whnf);refine ⟨rfl,⟨rfl,rfl,(by (try rw [Gt]);rfl),rfl,trivial⟩,⟨rfl,rfl,rfl,(by (try rw [Gt]);rfl),trivial⟩⟩)
 clear hc;obtain ⟨_,he,hb⟩:=hq;have hc:=hc2.sub he hb;clear he hb hc2 hF hR hl hX;replace hc:=hc.ghostF (i:=200) (j:=14) (T:=55) (s:=7) (k:=1) rfl rfl rfl rfl (by decide) rfl;refine jD (τ:=Kz) tH fF _ (QA:=Ui Kz _ [none,none,none] (.tup [.agg [(.sl 3 (ls.map dB)),.sl 7 ((aT (tol*tol) es).es.map bZ)],.c (.sl 19 ((aT (tol*tol) es).cs.map vZ)),.int .i64 0])) (by kernel_rfl) ?_ hc (λx e b a w' hx hc'=>FH tH hx hc');clear hc ho
 all_goals (repeat' ((try (conv=>whnf));first
  |refine aU ?_ ?_))
 all_goals (try refine Pr.mk ?_)
 all_goals (try simp only [List.length_map,Int.toNat_natCast] at *)
 all_goals first
  |((conv=>whnf);refine Sw.Loop.inv (α:=Nat) (λx=>[(4,.ptr 4 0),(9,.gs 2000030 ((GL tol es (jK tol es).length).map vZ).length),(11,.gs 100 ((jL tol es).map kH).length),(14,.ptr 14 0),(71,.gs 100 ((jL tol es).map kH).length),(72,.int .i64 ((jL tol es).length:Nat)),(73,.int .i64 (x:Nat))]) (λx=>[(200,.grow 55 7 ((((jL tol es).take x).map (·.1)).map bZ)),(14,.varo [(.sl 3 (ls.map dB)),.ob 200 ((((jL tol es).take x).map (·.1)).map bZ).length]),(4,.var [.v (.slice none 0 0),.v (.slice none 0 0)]),(2000030,.grow 47 19 ((GL tol es (jK tol es).length).map vZ)),(100,.grow 86 8 ((jL tol es).map kH))]) (λx=>x≤(jL tol es).length) (λx=>(jL tol es).length-x) 0 ?_ ?_ ?_ (λx hx=>?_))
 all_goals (repeat' ((try (conv=>whnf));first
  |refine ak ?_ ?_
  |(with_reducible refine au (λ_=>?_) (λ_=>?_))
  |refine aU ?_ ?_
  |refine Drw.mk (by kernel_rfl) ?_
  |refine aN N0 ?_ ?_
  |refine Ends.mk ?_))
 all_goals (try refine Pr.mk ?_)
 all_goals (try simp only [List.length_map,Int.toNat_natCast] at *)
 all_goals first
  |((with_reducible show (_:Nat)=_);rfl)
  |omega
  |exact ⟨hl1,λx hx=>(hl2 x hx).2⟩
  |((with_reducible show (_:Nat)≤_);have hrx:=(hr (jK tol es).length).2.2;simp only [List.length_append,List.length_map,List.length_cons,List.length_nil,List.length_take];omega)
  |((with_reducible show SubE _ _);exact ⟨rfl,rfl,rfl,rfl,rfl,rfl,rfl,trivial⟩)
  |((with_reducible show SubB _ _);exact ⟨rfl,rfl,rfl,rfl,rfl,trivial⟩)
  |((with_reducible show aB _=_);have hxx:x=(jL tol es).length:=(by omega);subst hxx;rw [List.take_length,(FD tol es).1,(FD tol es).2,List.map_append];rfl)
  |(have hm:=Qr (l:=(jL tol es)) (x:=x) (by omega);have hn:(List.take (x+1) (jL tol es)).length=(List.take x (jL tol es)).length+(0+1):=(by simp only [List.length_take];omega);(conv=>whnf);exact ⟨x+1,⟨⟨rfl,rfl,rfl,rfl,rfl,rfl,aX (by omega),trivial⟩,⟨(by (simp only [hm,List.map_append,List.map_cons,List.map_nil,List.append_nil]);(first|done|rfl)),(by (simp only [hm,hn,List.map_append,List.map_cons,List.map_nil,List.append_nil,List.length_append,List.length_map,List.length_cons,List.length_nil]);(first|done|rfl)),rfl,rfl,rfl,trivial⟩,by omega,(by show (jL tol es).length-(x+1)<(jL tol es).length-x;omega)⟩⟩)
instance Ny(ls:List LayD)(es:List Ent)(tol:Rat):DenI Tryz.prog 13 [.agg [(.sl 3 (ls.map dB)),.sl 7 (es.map bZ)],R tol] (ls.length≤1000∧(∀l∈ls,l.name.size≤1000)∧es.length≤12∧(∀e∈es,okV e)∧(∀e∈es,rE (fV e))∧rz tol≤12∧¬tol<0∧jf ls (es.map fV)=0) (.tup [.agg [(.sl 3 (ls.map dB)),.sl 7 ((aT (tol*tol) es).es.map bZ)],.c (.sl 19 ((aT (tol*tol) es).cs.map vZ)),.int .i64 0]):=⟨λ⟨h1,h2,h3,h4,h5,h6,h7,h8⟩=>Wq ls es tol h1 h2 h3 h4 h5 h6 h7 h8⟩
instance ahE(kd en fi:Int)(b1 b2 b3 b4 b5 b6 b7 b8:Bool)(l1 l2 l3 l4 l5 l6 l7 l8:List (List Cell)):DenI Tryz.prog 62 [.agg [.v (.int .i64 kd),.v (.int .i64 en),.v (.int .i64 fi),.v (.bool b1),.sl 1 l1,.v (.bool b2),.sl 1 l2,.v (.bool b3),.sl 1 l3,.v (.bool b4),.sl 1 l4,.v (.bool b5),.sl 1 l5,.v (.bool b6),.sl 1 l6,.v (.bool b7),.sl 1 l7,.v (.bool b8),.sl 1 l8]] (True) (.bool (!decide (kd=4))):=⟨λhp=>by
 refine aiE Tryz.func62 rfl ?_
 all_goals (repeat' ((try (conv=>whnf));first
  |refine Ends.mk ?_))
 all_goals first
  |rfl⟩
instance ahL(cs:List Chn):DenI Tryz.prog 82 [.c (.sl 19 (cs.map vZ)),.c (.v (.func (.func 62) #[] #[]))] (cs.length≤1000) (.int .i64 (ZP cs)):=⟨λhp=>by
 refine aiE Tryz.func82 rfl ?_
 all_goals first
  |((conv=>whnf);refine Sw.Loop.inv (α:=Nat) (λk=>[(0,.c (.sl 19 (cs.map vZ))),(1,.c (.v (.func (.func 62) #[] #[]))),(6,.c (.sl 19 (cs.map vZ))),(7,.int .i64 (cs.length:Nat)),(8,.int .i64 (k:Nat))]) (λk=>[]) (λk=>k≤cs.length∧∀j<k,(cs.getD j C0).kind=4) (λk=>cs.length-k) 0 ?_ ?_ ?_ (λk hk=>?_))
 all_goals (repeat' ((try (conv=>whnf));first
  |(with_reducible refine au (λ_=>?_) (λ_=>?_))
  |refine aN C0 ?_ ?_
  |refine Ends.mk ?_))
 all_goals (try refine Pr.mk ?_)
 all_goals (try simp only [List.length_map,Int.toNat_natCast] at *)
 all_goals (try (with_reducible show Tq _ _ _ _;generalize hcc:cs.getD k C0=c;(try rw [hcc]);obtain ⟨kd,en,fi,sr,ds⟩:=c;cases sr<;>cases ds))
 all_goals (repeat' ((try (conv=>whnf));first
  |refine aG ?_
  |(with_reducible refine bG (λ_=>?_) (λ_=>?_))
  |refine Ends.mk ?_))
 all_goals (try simp only [List.length_map,Int.toNat_natCast] at *)
 all_goals first
  |omega
  |trivial
  |exact ⟨Nat.zero_le _,λj hj=>absurd hj (Nat.not_lt_zero _)⟩
  |((conv=>whnf);exact ⟨k+1,⟨⟨rfl,rfl,rfl,rfl,aX (by omega),trivial⟩,trivial,⟨by omega,dN hk.2 (by rw [hcc];dsimp only;omega)⟩,(by show cs.length-(k+1)<cs.length-k;omega)⟩⟩)
  |((with_reducible show aB _=_);rw [aaU (x:=k) (by omega) hk.2 (by rw [hcc];dsimp only;omega)];rfl)
  |((with_reducible show aB _=_);have hxx:k=cs.length:=(by omega);subst hxx;rw [ac3 hk.2];rfl)⟩
instance aii(cs:List Chn):DenI Tryz.prog 43 [.c (.sl 19 (cs.map vZ)),.c (.v (.func (.func 62) #[] #[]))] (cs.length≤1000) (.bool (!Sv cs)):=⟨λhp=>by
 refine aiE Tryz.func43 rfl ?_
 all_goals (repeat' ((try (conv=>whnf));first
  |refine ak ?_ ?_
  |refine Ends.mk ?_))
 all_goals (try refine Pr.mk ?_)
 all_goals first
  |omega
  |exact bE (aei cs)⟩
instance ad7(ls:List LayD)(es:List Ent)(tol:Rat):DenI Tryz.prog 19 [.agg [(.sl 3 (ls.map dB)),.sl 7 (es.map bZ)],R tol] (ls.length≤1000∧(∀l∈ls,l.name.size≤1000)∧es.length≤12∧(∀e∈es,okV e)∧(∀e∈es,rE (fV e))∧rz tol≤12∧¬tol<0∧jf ls (es.map fV)=0) (.bool (Sv (aT (tol*tol) es).cs)):=⟨λhp=>by
 have hlen:(aT (tol*tol) es).cs.length≤1000:=Oj hp.2.2.1 hp.2.2.2.1
 all_goals refine aiE Tryz.func19 rfl ?_
 all_goals (repeat' ((try (conv=>whnf));first
  |refine ak ?_ ?_
  |(with_reducible refine aJ ?_)
  |(with_reducible refine aK ?_)
  |(with_reducible refine au (λ_=>?_) (λ_=>?_))
  |refine Ends.mk ?_))
 all_goals (try refine Pr.mk ?_)
 all_goals first
  |exact hp
  |exact hlen
  |(refine bE ?_;rw [Bool.not_not])
  |(exfalso;rename ¬0=0=>h;exact h rfl)⟩
instance afX(x y u v:Int):DenI Tryz.prog 47 [.int .i64 x,.int .i64 y,.int .i64 u,.int .i64 v] (lS x∧lS y∧lS u∧lS v) (.agg (bZ (Hu x y u v))):=⟨λhp=>by
 obtain ⟨h1,h2,h3,h4⟩:=hp;unfold lS at *
 all_goals refine aiE Tryz.func47 rfl ?_
 all_goals (repeat' ((try (conv=>whnf));first
  |refine ak ?_ ?_
  |refine Ends.mk ?_))
 all_goals (try refine Pr.mk ?_)
 all_goals first
  |exact ⟨h1,h2⟩
  |exact ⟨h3,h4⟩
  |rfl⟩
instance ahi(es:List (List Cell)):DenI Tryz.prog 46 [.c (.sl 7 es)] (True) (.agg [.sl 3 (aLL.map dB),.sl 7 es]):=⟨λhp=>by
 refine aiE Tryz.func46 rfl ?_
 all_goals (repeat' ((try (conv=>whnf));first
  |refine Ends.mk ?_))
 all_goals first
  |rfl⟩
instance ahl:DenI Tryz.prog 11 [] (True) (.bool true):=⟨λhp=>by
 haveI r1:DenI Tryz.prog 13 [.agg [.sl 3 (aLL.map dB),.sl 7 [bZ (Hu 0 0 1000 0),bZ (Hu 1003 0 0 1000),bZ (Hu 0 1004 0 0)]],R ((5:Int):Rat)] True (.tup [.agg [.sl 3 (aLL.map dB),.sl 7 ((aT (((5:Int):Rat)*((5:Int):Rat)) aw1).es.map bZ)],.c (.sl 19 ((aT (((5:Int):Rat)*((5:Int):Rat)) aw1).cs.map vZ)),.int .i64 0]):=⟨λ_=>(Ny aLL aw1 ((5:Int):Rat)).den ⟨by decide,by decide,by decide,yj.1,yj.2,(Jp (by decide) (by decide)).1,(Jp (by decide) (by decide)).2,VQ⟩⟩
 haveI r2:DenI Tryz.prog 13 [.agg [.sl 3 (aLL.map dB),.sl 7 [bZ (Hu 0 0 1000 0),bZ (Hu 1003 0 0 1000),bZ (Hu 0 1004 0 0)]],R ((3:Int):Rat)] True (.tup [.agg [.sl 3 (aLL.map dB),.sl 7 ((aT (((3:Int):Rat)*((3:Int):Rat)) aw1).es.map bZ)],.c (.sl 19 ((aT (((3:Int):Rat)*((3:Int):Rat)) aw1).cs.map vZ)),.int .i64 0]):=⟨λ_=>(Ny aLL aw1 ((3:Int):Rat)).den ⟨by decide,by decide,by decide,yj.1,yj.2,(Jp (by decide) (by decide)).1,(Jp (by decide) (by decide)).2,VQ⟩⟩
 haveI r3:DenI Tryz.prog 13 [.agg [.sl 3 (aLL.map dB),.sl 7 [bZ (Hu 0 0 2 0)]],R ((5:Int):Rat)] True (.tup [.agg [.sl 3 (aLL.map dB),.sl 7 ((aT (((5:Int):Rat)*((5:Int):Rat)) aw2).es.map bZ)],.c (.sl 19 ((aT (((5:Int):Rat)*((5:Int):Rat)) aw2).cs.map vZ)),.int .i64 0]):=⟨λ_=>(Ny aLL aw2 ((5:Int):Rat)).den ⟨by decide,by decide,by decide,Tj.1,Tj.2,(Jp (by decide) (by decide)).1,(Jp (by decide) (by decide)).2,adP⟩⟩
 haveI r4:DenI Tryz.prog 19 [.agg [.sl 3 (aLL.map dB),.sl 7 [bZ (Hu 0 0 1000 0),bZ (Hu 1003 0 0 1000),bZ (Hu 0 1004 0 0)]],R ((5:Int):Rat)] True (.bool false):=⟨λ_=>by have h:=(ad7 aLL aw1 ((5:Int):Rat)).den ⟨by decide,by decide,by decide,yj.1,yj.2,(Jp (by decide) (by decide)).1,(Jp (by decide) (by decide)).2,VQ⟩;rw [ada] at h;exact h⟩
 obtain ⟨a1,b1⟩:=TV acI;obtain ⟨a2,b2⟩:=TV acY;obtain ⟨a3,b3⟩:=TV aeF;have a4:=adL;have c10:=b1 0 (by decide);have c11:=b1 1 (by decide);have c21:=b2 1 (by decide);have c22:=b2 2 (by decide);have c31:=b3 1 (by decide);generalize (aT (((5:Int):Rat)*((5:Int):Rat)) aw1).cs=C1 at *;generalize (aT (((3:Int):Rat)*((3:Int):Rat)) aw1).cs=C2 at *;generalize (aT (((5:Int):Rat)*((5:Int):Rat)) aw2).cs=C3 at *;generalize (aT (((5:Int):Rat)*((5:Int):Rat)) aw2).es=E3 at *;generalize (aT (((5:Int):Rat)*((5:Int):Rat)) aw1).es=E1 at *;generalize (aT (((3:Int):Rat)*((3:Int):Rat)) aw1).es=E2 at *;have d10:(C1.getD 0 C0).kind=1∧(C1.getD 0 C0).ent=1:=c10;have d11:(C1.getD 1 C0).kind=1∧(C1.getD 1 C0).ent=2:=c11;have d21:(C2.getD 1 C0).kind=4∧(C2.getD 1 C0).ent=1:=c21;have d22:(C2.getD 2 C0).kind=4∧(C2.getD 2 C0).ent=2:=c22;have d31:(C3.getD 1 C0).kind=2∧(C3.getD 1 C0).ent=0:=c31;clear b1 b2 b3 c10 c11 c21 c22 c31
 all_goals refine aiE Tryz.func11 rfl ?_
 all_goals (repeat' ((try (conv=>whnf));first
  |refine aG ?_
  |refine ak ?_ ?_
  |(with_reducible refine aJ ?_)
  |(with_reducible refine aK ?_)
  |(with_reducible refine au (λ_=>?_) (λ_=>?_))
  |(with_reducible refine bG (λ_=>?_) (λ_=>?_))
  |refine Drw.mk (by kernel_rfl) ?_
  |refine aN C0 ?_ ?_
  |refine Ends.mk ?_))
 all_goals (try refine Pr.mk ?_)
 all_goals (try simp only [List.length_map,a1,a2,a3,a4,List.length_cons,List.length_nil] at *)
 all_goals (try simp only [Int.toNat_zero,show Int.toNat 1=1 from rfl,show Int.toNat 2=2 from rfl] at *)
 all_goals first
  |trivial
  |omega⟩
instance aiv(r:Rq):DenI Tryz.prog 112 [.agg (QH r)] (True) (.bool (Wn r)):=⟨λhp=>by
 refine aiE Tryz.func112 rfl ?_
 all_goals (repeat' ((try (conv=>whnf));first
  |(with_reducible refine aJ ?_)
  |(with_reducible refine aK ?_)
  |(with_reducible refine au (λ_=>?_) (λ_=>?_))
  |refine Ends.mk ?_))
 all_goals (try simp only [List.length_map,Int.toNat_natCast] at *)
 all_goals first
  |(refine bE ?_;unfold Wn;rw [Bool.eq_iff_iff];simp only [Bool.and_eq_true,decide_eq_true_eq];omega)
  |(refine bE ?_;exact (aaI (by omega)).symm)⟩
instance aiu(ls:List LayD)(es:List EntR):DenI Tryz.prog 75 [.agg [(.sl 3 (ls.map dB)),.sl 7 (es.map dL)]] (es.length≤12) (.bool (Pq ls es)):=⟨λhp=>by
 refine aiE Tryz.func75 rfl ?_
 all_goals (repeat' ((try (conv=>whnf));first
  |(with_reducible refine aJ ?_)
  |(with_reducible refine aK ?_)
  |(with_reducible refine au (λ_=>?_) (λ_=>?_))
  |refine Ends.mk ?_))
 all_goals (try simp only [List.length_map,Int.toNat_natCast] at *)
 all_goals first
  |((conv=>whnf);refine Sw.Loop.inv (α:=Nat) (λx=>[(1,.ptr 1 0),(3,.int .i64 (x:Nat))]) (λx=>[(1,.var [(.sl 3 (ls.map dB)),.sl 7 (es.map dL)])]) (λx=>x≤ls.length∧∀j<x,(ls.getD j L0).name.size≤60) (λx=>ls.length-x) 0 ?_ ?_ ?_ (λx hx=>?_))
  |skip
 all_goals (repeat' ((try (conv=>whnf));first
  |(with_reducible refine au (λ_=>?_) (λ_=>?_))
  |refine aN L0 ?_ ?_
  |refine Ends.mk ?_))
 all_goals (try refine Pr.mk ?_)
 all_goals (try simp only [List.length_map,Int.toNat_natCast] at *)
 all_goals first
  |((conv=>whnf);refine Sw.Loop.inv (α:=Nat) (λy=>[(1,.ptr 1 0),(4,.int .i64 (y:Nat))]) (λy=>[(1,.var [(.sl 3 (ls.map dB)),.sl 7 (es.map dL)])]) (λy=>y≤es.length∧∀j<y,zi (es.getD j rU)=true) (λy=>es.length-y) 0 ?_ ?_ ?_ (λy hy=>?_))
  |skip
 all_goals (repeat' ((try (conv=>whnf));first
  |refine aG ?_
  |(with_reducible refine aJ ?_)
  |(with_reducible refine aK ?_)
  |(with_reducible refine au (λ_=>?_) (λ_=>?_))
  |refine OnB.mk (λ_=>?_) (λ_=>?_)
  |refine aN rU ?_ ?_
  |refine Ends.mk ?_))
 all_goals (try refine Pr.mk ?_)
 all_goals (try simp only [List.length_map,Int.toNat_natCast] at *)
 all_goals first
  |((conv=>whnf);refine Sw.Loop.inv (α:=Nat) (λz=>[(1,.ptr 1 0),(4,.int .i64 (y:Nat)),(5,.ptr 5 0),(6,.int .i64 (z:Nat))]) (λz=>[(1,.var [(.sl 3 (ls.map dB)),.sl 7 (es.map dL)]),(5,.var (dL (es.getD y rU)))]) (λz=>z≤(es.getD y rU).pts.length∧∀k<z,vsB ((es.getD y rU).pts.getD k ru)=true) (λz=>(es.getD y rU).pts.length-z) 0 ?_ ?_ ?_ (λz hz=>?_))
  |skip
 all_goals (repeat' ((try (conv=>whnf));first
  |refine aG ?_
  |(with_reducible refine aJ ?_)
  |(with_reducible refine aK ?_)
  |(with_reducible refine au (λ_=>?_) (λ_=>?_))
  |refine OnB.mk (λ_=>?_) (λ_=>?_)
  |refine aN ru ?_ ?_
  |refine Ends.mk ?_))
 all_goals (try refine Pr.mk ?_)
 all_goals (try simp only [List.length_map,Int.toNat_natCast] at *)
 all_goals first
  |trivial
  |omega
  |exact ⟨Nat.zero_le _,λj hj=>absurd hj (Nat.not_lt_zero _)⟩
  |(refine bE ?_;rw [acd (by omega)];done)
  |(refine bE ?_;rw [aal (x:=x) (by omega) (by omega)];done)
  |(refine bE ?_;refine (EW (x:=y) (by omega) (KN (.inl ?_))).symm;omega)
  |(refine bE ?_;refine (EW (x:=y) (by omega) (KN (.inr (.inl ?_)))).symm;omega)
  |(refine bE ?_;refine (EW (x:=y) (by omega) (abV (k:=z) (by omega) ?_)).symm;unfold vsB;simp_all;done)
  |(refine bE ?_;refine (EW (x:=y) (by omega) (KN (.inr (.inr ?_)))).symm;simp_all;done)
  |(refine bE ?_;have hxx:x=ls.length:=(by omega);subst hxx;have hyy:y=es.length:=(by omega);subst hyy;rw [aec (by omega) hx.2 hy.2];done)
  |((conv=>whnf);exact ⟨z+1,⟨⟨rfl,rfl,rfl,aX (by omega),trivial⟩,⟨rfl,rfl,trivial⟩,⟨by omega,dN hz.2 (by unfold vsB;simp_all;done)⟩,(by show (es.getD y rU).pts.length-(z+1)<(es.getD y rU).pts.length-z;omega)⟩⟩)
  |((conv=>whnf);exact ⟨y+1,⟨⟨rfl,aX (by omega),trivial⟩,⟨rfl,trivial⟩,⟨by omega,dN hy.2 (aae (by omega) (by omega) (by simp_all;done) (by have hzz:z=(es.getD y rU).pts.length:=(by omega);subst hzz;exact hz.2))⟩,(by show es.length-(y+1)<es.length-y;omega)⟩⟩)
  |((conv=>whnf);exact ⟨x+1,⟨⟨rfl,aX (by omega),trivial⟩,⟨rfl,trivial⟩,⟨by omega,dN hx.2 (by omega)⟩,(by show ls.length-(x+1)<ls.length-x;omega)⟩⟩)⟩
instance aiw(ls:List LayD)(es:List EntR):DenI Tryz.prog 33 [.agg [(.sl 3 (ls.map dB)),.sl 7 (es.map dL)]] (True) (.bool (decide (es.length≤12) && Pq ls es)):=⟨λhp=>by
 refine aiE Tryz.func33 rfl ?_
 all_goals (repeat' ((try (conv=>whnf));first
  |refine ak ?_ ?_
  |(with_reducible refine aJ ?_)
  |(with_reducible refine aK ?_)
  |(with_reducible refine au (λ_=>?_) (λ_=>?_))
  |refine Ends.mk ?_))
 all_goals (try refine Pr.mk ?_)
 all_goals (try simp only [List.length_map,Int.toNat_natCast] at *)
 all_goals first
  |omega
  |(refine bE ?_;rw [decide_eq_true (by omega)];simp;done)
  |(refine bE ?_;rw [decide_eq_false (by omega)];rfl)⟩
instance air(r:Rq):DenI Tryz.prog 48 [.agg (QH r),.int .i64 3] (True) (.bool (ZK 3 (r.a,r.l,r.b,r.m))):=⟨λhp=>by
 refine aiE Tryz.func48 rfl ?_
 all_goals (repeat' ((try (conv=>whnf));first
  |refine ak ?_ ?_
  |(with_reducible refine aJ ?_)
  |(with_reducible refine aK ?_)
  |(with_reducible refine au (λ_=>?_) (λ_=>?_))
  |refine Ends.mk ?_))
 all_goals (try refine Pr.mk ?_)
 all_goals (try simp only [List.length_map,Int.toNat_natCast] at *)
 all_goals first
  |omega
  |(refine bE ?_;rw [aes (k:=3) (r:=(r.a,r.l,r.b,r.m)) (by show (r.l.length:Int) > 3;omega)];done)
  |(refine bE ?_;rw [ac6 (k:=3) (r:=(r.a,r.l,r.b,r.m)) (by show (r.m.length:Int) > 3;omega)];done)
  |(refine bE ?_;unfold ZK;simp_all;done)⟩
instance ads(ls:List LayD)(es:List EntR)(t:Rq):DenI Tryz.prog 12 [.agg [(.sl 3 (ls.map dB)),.sl 7 (es.map dL)],.agg (QH t)] (True) (.bool (smA ls es t)):=⟨λhp=>by
 refine aiE Tryz.func12 rfl ?_
 all_goals (repeat' ((try (conv=>whnf));first
  |refine aG ?_
  |(with_reducible refine aJ ?_)
  |(with_reducible refine aK ?_)
  |refine OnB.mk (λ_=>?_) (λ_=>?_)
  |refine Ends.mk ?_))
 all_goals first
  |(refine bE ?_;unfold smA;simp_all;done)⟩
theorem aaV{es:List EntR}(h:∀e∈es,e.pts.length≤1000){x:Nat}(hx:x<es.length):(es.getD x rU).pts.length≤1000:=h _ (by simp [List.getD,hx])
theorem PX{l:List EntR}{x:Nat}(h:x<l.length):(l.take (x+1)).map dL=(l.take x).map dL++[dL (l.getD x rU)]:=by
 rw [List.take_succ,List.map_append];simp [List.getD,h]
theorem WB(ls:List LayD)(es:List EntR)(h1:ls.length≤1000)(h2:es.length≤1000)(h3:∀e∈es,e.pts.length≤1000):
 Den Tryz.prog 14 [.agg [(.sl 3 (ls.map dB)),.sl 7 (es.map dL)]] (.agg [(.sl 3 (ls.map dB)),.sl 7 (es.map dL)]):=by
 refine Den.of ⟨by kernel_rfl,λw X vs ho hX hl hR=>?_⟩ rfl
 haveI:WOk Tryz.prog w:=⟨ho⟩
 refine enter Tryz.func14 rfl rfl (by rw [hl];rfl) λa hF=>?_
 have hc:=uD (N:=29) hX hl hR hF;refine Lp (τ:=Kz) tH fF 2 _ (QA:=λz e b=>z=.normal∧SubE [(3,.ptr 3 0),(2,.ptr 2 0),(1,.ptr 1 0)] e∧SubB [(1,.var [(.sl 3 (ls.map dB)),.sl 7 (es.map dL)]),(3,.var [(.sl 3 (ls.map dB)),.v (.slice none 0 0)]),(2,.var [.v (.slice none 0 0),.v (.slice none 0 0)])] b) (by kernel_rfl) ?_ hc (λe b a w hq hc2=>?_) (λx e b a w hx hq hc=>absurd hq.1 hx)
 case refine_1 =>
  clear hc hF hR hl hX
  all_goals (repeat' ((try (conv=>whnf));first
   |refine ak ?_ ?_))
  all_goals (try refine Pr.mk ?_)
  all_goals (try simp only [List.length_map,Int.toNat_natCast] at *)
  all_goals first
   |omega
   |exact ⟨rfl,⟨rfl,rfl,rfl,trivial⟩,⟨rfl,rfl,rfl,trivial⟩⟩
 clear hc;obtain ⟨_,he,hb⟩:=hq;have hc:=hc2.sub he hb;clear he hb hc2 hF hR hl hX;replace hc:=hc.ghostF (i:=200) (j:=3) (T:=55) (s:=7) (k:=1) rfl rfl rfl rfl (by decide) rfl;refine jD (τ:=Kz) tH fF _ (QA:=Ui Kz _ [none] (.agg [(.sl 3 (ls.map dB)),.sl 7 (es.map dL)])) (by kernel_rfl) ?_ hc (λx e b a w' hx hc'=>FH tH hx hc');clear hc ho
 all_goals (try simp only [List.length_map,Int.toNat_natCast] at *)
 all_goals first
  |((conv=>whnf);refine Sw.Loop.inv (α:=Nat) (λx=>[(2,.ptr 2 0),(3,.ptr 3 0),(11,.c (.sl 7 (es.map dL))),(12,.int .i64 (es.length:Nat)),(13,.int .i64 (x:Nat))]) (λx=>[(200,.grow 55 7 ((es.take x).map dL)),(3,.varo [(.sl 3 (ls.map dB)),.ob 200 ((es.take x).map dL).length]),(2,.var [.v (.slice none 0 0),.v (.slice none 0 0)])]) (λx=>x≤es.length) (λx=>es.length-x) 0 ?_ ?_ ?_ (λx hx=>?_))
 all_goals (repeat' ((try (conv=>whnf));first
  |refine ak ?_ ?_
  |(with_reducible refine au (λ_=>?_) (λ_=>?_))
  |refine aU ?_ ?_
  |refine aN rU ?_ ?_
  |refine Ends.mk ?_))
 all_goals (try refine Pr.mk ?_)
 all_goals (try simp only [List.length_map,Int.toNat_natCast] at *)
 all_goals first
  |((with_reducible show (_:Nat)=_);rfl)
  |omega
  |(have hz:=aaV h3 (x:=x) (by omega);omega)
  |((with_reducible show (_:Nat)≤_);simp only [List.length_append,List.length_map,List.length_cons,List.length_nil,List.length_take];omega)
  |((with_reducible show SubE _ _);exact ⟨rfl,rfl,rfl,rfl,rfl,trivial⟩)
  |((with_reducible show SubB _ _);exact ⟨rfl,rfl,rfl,trivial⟩)
  |(have hm:=PX (l:=es) (x:=x) (by omega);have hn:(List.take (x+1) es).length=(List.take x es).length+(0+1):=(by simp only [List.length_take];omega);(conv=>whnf);exact ⟨x+1,⟨⟨rfl,rfl,rfl,rfl,aX (by omega),trivial⟩,⟨(by (simp only [hm,List.map_append,List.map_cons,List.map_nil,List.append_nil]);(first|done|rfl)),(by (simp only [hm,hn,List.map_append,List.map_cons,List.map_nil,List.append_nil,List.length_append,List.length_map,List.length_cons,List.length_nil]);(first|done|rfl)),rfl,trivial⟩,by omega,(by show es.length-(x+1)<es.length-x;omega)⟩⟩)
  |((with_reducible show aB _=_);have hxx:x=es.length:=(by omega);subst hxx;rw [List.take_length];rfl)
instance (priority:=900) ady(ls:List LayD)(es:List EntR):DenI Tryz.prog 14 [.agg [(.sl 3 (ls.map dB)),.sl 7 (es.map dL)]] (ls.length≤1000∧es.length≤1000∧∀e∈es,rE e) (.agg [(.sl 3 (ls.map dB)),.sl 7 (es.map dL)]):=⟨λ⟨h1,h2,h3⟩=>WB ls es h1 h2 λe he=>Nat.le_trans (h3 e he).2.2.1 (by decide)⟩
instance (priority:=2000) ahe(ls:List LayD)(es:List Ent):DenI Tryz.prog 14 [.agg [(.sl 3 (ls.map dB)),.sl 7 (es.map bZ)]] (ls.length≤1000∧es.length≤1000∧∀e∈es,rE (fV e)) (.agg [(.sl 3 (ls.map dB)),.sl 7 (es.map bZ)]):=⟨λ⟨h1,h2,h3⟩=>by
 have h:=(ady ls (es.map fV)).den ⟨h1,by rw [List.length_map];exact h2,λe he=>by obtain ⟨x,hx,rfl⟩:=List.mem_map.1 he;exact h3 x hx⟩;rw [zD] at h
 exact h⟩
instance (priority:=60) aed(ls:List LayD)(es:List EntR)(q:Rat):DenI Tryz.prog 13 [.agg [(.sl 3 (ls.map dB)),.sl 7 (es.map dL)],R q] (ls.length≤1000∧es.length≤1000∧(∀l∈ls,l.name.size≤1000)∧(∀e∈es,rE e)∧(jf ls es≠0∨q<0)∧rz q≤12) (.tup [.agg [.sl 3 [],.sl 7 []],.c (.sl 0 []),.int .i64 (if jf ls es≠0 then jf ls es else 1)]):=⟨λhp=>by
 obtain ⟨h1,h2,h3,h4,h5,h6⟩:=hp
 all_goals refine aiE Tryz.func13 rfl ?_
 all_goals (repeat' ((try (conv=>whnf));first
  |refine aG ?_
  |refine ak ?_ ?_
  |(with_reducible refine au (λ_=>?_) (λ_=>?_))
  |(with_reducible refine bG (λ_=>?_) (λ_=>?_))
  |refine Ends.mk ?_))
 all_goals (try refine Pr.mk ?_)
 all_goals (try simp only [dU] at *)
 all_goals first
  |exact ⟨h1,h2,h3,h4⟩
  |(rename ¬jf ls es=0=>h;rw [if_pos h];rfl)
  |(rename jf ls es=0=>h;rw [if_neg (λg=>g h)];rfl)
  |(exfalso;rename ¬q<0=>h;exact h5.elim (λg=>g (by assumption)) h)⟩
end Go.Proofs.YtmniihkenijjpaaGreatDoor
