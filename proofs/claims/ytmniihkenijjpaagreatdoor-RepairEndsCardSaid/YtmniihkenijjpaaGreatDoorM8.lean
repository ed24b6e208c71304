/-
  Rules of the abstract run, plain laws, and what functions answer, for the law RepairEnds.
  Conditions: none.
-/
import Derived.Test.YtmniihkenijjpaaGreatDoorM7
import Derived.Laws.Strings
import Derived.Lib.Bytealg
import Derived.Lib.AppendStr
set_option linter.all false
namespace Go.Sw
open Go
theorem Bnd.cg{f g:Nat→Rat}(h:Bnd f)(e:∀n,f n=g n):Bnd g:=by rwa [funext e] at h
def ConS(p:Int × Int)(f:Nat→Rat):Prop:=∃g:Nat→Rat,NulS (λn=>g n-f n)∧∀n,con p (g n)
theorem ConS.const{p:Int × Int}{q:Rat}(h:con p q):ConS p λ_=>q:=⟨λ_=>q,NulS.zero.cg λn=>by grind,λ_=>h⟩
theorem ConS.cg{p:Int × Int}{f g:Nat→Rat}(h:ConS p f)(e:∀n,f n=g n):ConS p g:=by rwa [funext e] at h
theorem Gw(q:Rat):kC (decide (q.num<0)) (lim q.num.natAbs) (decide ((q.den:Int)<0)) (lim (q.den:Int).natAbs)=true:=by
 rw [oK];have h1:=den_pos q;have h2:=q.reduced;rw [Bool.and_eq_true,decide_eq_true_eq,decide_eq_true_eq];exact ⟨o7.2 h1,by rw [Int.natAbs_natCast];exact congrArg Int.ofNat h2⟩
structure Rt where
 a:Rat
 b:Rat
 c:Rat
end Go.Sw
namespace Go.Sw
open Go
section
variable (a b c d e f:Rat)
end
end Go.Sw
namespace Go.Sw
open Go
theorem acB{x y:Int}(h:0<y):decide (((Nat.gcd x.natAbs y.natAbs:Nat):Int)=1)=kC (decide (x<0)) (lim x.natAbs) (decide (y<0)) (lim y.natAbs):=by
 rw [oK,o7.2 h];simp
theorem acH{x y:Int}(h:y≤0):false=kC (decide (x<0)) (lim x.natAbs) (decide (y<0)) (lim y.natAbs):=by
 rw [oK];have:¬iK y=1:=λe=>absurd (o7.1 e) (by omega)
 simp [this]
theorem Iz{e0 e1 e:List Cell}{es:List (List Cell)}{k:List Cell→Prop}(hk:k e):Elem (e0 :: e1 :: e :: es) 2 k:=⟨2,e,rfl,rfl,hk⟩
end Go.Sw
namespace Go.Sw
open Go
section
variable {a b c d m n x y:Rat}
end
section
variable {fx fy tx ty x y:Rat} {r fz tz:Int}
end
section
variable {fx fy tx ty x y:Rat} {r fz tz:Int}
end
end Go.Sw
namespace Go.Sw
open Go
section
variable {m:Nat} {M:Int} {a b:Rat}
end
end Go.Sw
namespace Go.Sw
open Go Go.RowKit
def lK:List Cell→Prop
 |[]=>True
 |.sl _ es :: r=>es.length≤9223372036854775807∧lK r
 |_ :: r=>lK r
def pK:List AV→Prop
 |[]=>True
 |v :: r=>lK (cellsOf v)∧pK r
theorem qH{w:World}{X:List Nat}:∀{us:List Value} {cs:List Cell},RepL w X us cs→lK cs
 |us,[],_=>trivial
 |us,.v u :: r,h=>by
  obtain ⟨_,us',_,_,h2⟩:=h.inv;show lK r;exact qH h2
 |us,.p ps :: r,h=>by
  obtain ⟨_,us',_,_,h2⟩:=h.inv;show lK r;exact qH h2
 |us,.fn ff ps :: r,h=>by
  obtain ⟨_,us',_,_,h2⟩:=h.inv;show lK r;exact qH h2
 |us,.ob i n :: r,h=>by
  obtain ⟨_,us',_,_,h2⟩:=h.inv;show lK r;exact qH h2
 |us,.sl s es :: r,h=>by
  obtain ⟨_,us',_,h1,h2⟩:=h.inv;obtain ⟨A,cap,uss,_,h3,h4,_⟩:=RepS.of_sl h1;exact ⟨Nat.le_trans h3 h4,qH h2⟩
theorem La{w:World}{X:List Nat}:∀{vs:List Value} {xs:List AV},vs.length=xs.length→(∀(i:Nat) u v,vs[i]?=some u→xs[i]?=some v→RepD w X u v)→pK xs
 |_,[],_,_=>trivial
 |[],_ :: _,h,_=>by simp at h
 |v :: vs,x :: xs,hl,h=>⟨by
  obtain ⟨us,_,h1⟩:=(h 0 v x rfl rfl).cells
  exact qH h1,La (by simpa using hl) λi u y a b=>h (i+1) u y (by simpa using a) (by simpa using b)⟩
theorem gQ{P:Program}[Wld P]{f:FuncId}{xs:List AV}{r:AV}(hb:dL P f=true)(h:pK xs→Den P f xs r)(hn:lJ xs=true:=by rfl):Den P f xs r :=
 Den.of ⟨hb,λw X vs ho hX hl hr=>((h (La hl hr)).old hn).2 w X vs ho hX hl hr⟩ hn
end Go.Sw
namespace Go.Sw
open Go
def pad:Nat→Nat→List Nat
 |0,_=>[]
 |n+1,v=>v % 1000000000 :: pad n (v / 1000000000)
theorem Jq:∀(n v:Nat),(pad n v).length=n
 |0,_=>rfl
 |n+1,v=>by simp [pad,Jq]
theorem rF:∀(n v:Nat),Lb (pad n v)
 |0,_=>Lb.nil
 |n+1,v=>Lb.cons (Nat.mod_lt _ (by decide)) (rF n _)
theorem jM:∀(n v:Nat),v<1000000000 ^ n→val (pad n v)=v
 |0,v,h=>by simp at h;subst h;rfl
 |n+1,v,h=>by
  have:v / 1000000000<1000000000 ^ n:=Nat.div_lt_of_lt_mul (by rw [Nat.pow_succ,Nat.mul_comm] at h;exact h);simp only [pad,val,jM n _ this];omega
theorem xM:∀(l:List Nat),Lb l→l=pad l.length (val l)
 |[],_=>rfl
 |x :: r,h=>by
  have h1:=h.head;have h2:=xM r h.tail;simp only [List.length_cons,pad,val];rw [show (x+1000000000*val r) % 1000000000=x by omega,show (x+1000000000*val r) / 1000000000=val r by omega,← h2]
theorem JO{l:List Nat}{n v:Nat}(h:Lb l)(hl:l.length=n)(hv:val l=v):aX l=aX (pad n v):=by
 subst hl hv;rw [← xM l h]
theorem cE{c c':Cell}(h:c=c'):aA [AV.c c]=AV.c c':=by rw [h];rfl
theorem lE{l l':List Nat}(h:l=l'):aA [AV.c (aX l)]=AV.c (aX l'):=by rw [h];rfl
theorem ZL{l:List Nat}{k:Nat}{i:Int}(hk:k≤l.length)(h0:¬k=0)(hi:i.toNat=k-1):some (AV.c (.sl 1 ((((l.take k).map λx=>[Cell.v (u32 x)]).take i.toNat).drop (Int.toNat 0))))=some (AV.c (aX (l.take (k-1)))):=by
 rw [hi];show some (AV.c (.sl 1 (List.drop 0 _)))=_;rw [List.drop_zero,← List.map_take,List.take_take,Nat.min_eq_left (by omega)]
theorem Ec{x:Nat}:((x:Int)-1).toNat=x-1:=by omega
theorem WR{x:Nat}:((x:Int)+1).toNat=x+1:=by omega
theorem IK{x n:Nat}(h:x≤n):min x n=x:=Nat.min_eq_left h
theorem sS{l:List Nat}{x:Nat}(hx:x≤l.length∧∀j,x≤j→l.getD j 0=0)(h:x=0∨(l.take x).getD (x-1) 0≠0):aA [AV.c (aX (l.take x))]=AV.c (aX (ah l)) :=
 lE (lq l x hx.1 hx.2 (LK hx.1 h))
theorem zE{neg b:Bool}{l:List Nat}(hb:Lb l)(h:b=(neg && decide (0<val l))):aA [AV.agg [Cell.v (.bool b),aX (ah l)]]=Z (dM neg (val l)):=by
 subst h;show AV.agg [_,_]=AV.agg [zs _,zl _];unfold zs zl;rw [tN,jP,qM l hb]
theorem Iu{l:List Nat}(hb:Lb l):0<(ah l).length↔0<val l:=by
 rw [← qM l hb];have:=bW (n:=val l);omega
theorem zE1{b:Bool}{l:List Nat}(hb:Lb l)(h:b=decide ((((ah l).length:Nat):Int) > 0)):aA [AV.agg [Cell.v (.bool b),aX (ah l)]]=Z (dM true (val l)) :=
 zE hb (by have:=Iu hb;subst h;rw [Bool.true_and,decide_eq_decide];omega)
theorem zE0{l:List Nat}(hb:Lb l):aA [AV.agg [Cell.v (.bool false),aX (ah l)]]=Z (dM false (val l)):=zE hb rfl
theorem aaI{l:List Nat}{x:Nat}{i j:Int}(hx:x≤l.length∧∀j,x≤j→l.getD j 0=0)(h:x=0∨l.getD (x-1) 0≠0)(hi:i.toNat=0)(hj:j.toNat=x):Cell.sl 1 (List.drop i.toNat (List.take j.toNat (l.map λx=>[Cell.v (u32 x)])))=aX (ah l):=by
 rw [hi,hj,List.drop_zero,← List.map_take,lq l x hx.1 hx.2 h]
theorem sg1{b:Bool}{l:List Nat}{x:Nat}{i j:Int}(hb:Lb l)(hx:x≤l.length∧∀j,x≤j→l.getD j 0=0)(h:x=0∨l.getD (x-1) 0≠0)(hi:i.toNat=0)(hj:j.toNat=x)(he:b=decide (((x:Nat):Int) > 0)):
 aA [AV.agg [Cell.v (.bool b),Cell.sl 1 (List.drop i.toNat (List.take j.toNat (l.map λx=>[Cell.v (u32 x)])))]]=Z (dM true (val l)):=by
 rw [aaI hx h hi hj];have hl:=congrArg List.length (lq l x hx.1 hx.2 h);rw [List.length_take,Nat.min_eq_left hx.1] at hl;exact zE1 hb (by rw [he,hl])
theorem sg0{l:List Nat}{x:Nat}{i j:Int}(hb:Lb l)(hx:x≤l.length∧∀j,x≤j→l.getD j 0=0)(h:x=0∨l.getD (x-1) 0≠0)(hi:i.toNat=0)(hj:j.toNat=x):
 aA [AV.agg [Cell.v (.bool false),Cell.sl 1 (List.drop i.toNat (List.take j.toNat (l.map λx=>[Cell.v (u32 x)])))]]=Z (dM false (val l)):=by
 rw [aaI hx h hi hj];exact zE0 hb
theorem abn{n:Nat}(h0:0<n)(h:n≤9223372036854775807):some (AV.int .i64 (IntKind.i64.wrap ((n:Int)-1)))=some (AV.int .i64 ((n-1:Nat):Int)):=by
 rw [bQ (by omega) (by omega)];congr 2;omega
theorem IB{n:Nat}(h0:0<n)(h:n≤9223372036854775807):some (AV.int .i64 (IntKind.i64.wrap ((n:Int)-1-1)))=some (AV.int .i64 (((n-1:Nat):Int)-1)):=by
 rw [bQ (by omega) (by omega)];congr 2;omega
section
variable {a b:List Nat} {x:Nat}
theorem UE(ha:CanL a)(hb:CanL b)(h:a.length<b.length):aA [AV.c (Cell.v (.int .i64 (-1)))]=AV.int .i64 (fP (val a) (val b)):=by rw [KX (fK ha hb h)];rfl
theorem Ux(ha:CanL a)(hb:CanL b)(h:b.length<a.length):aA [AV.c (Cell.v (.int .i64 1))]=AV.int .i64 (fP (val a) (val b)):=by rw [KA (fK hb ha h)];rfl
theorem aaX(ha:CanL a)(hb:CanL b)(hx:x≤a.length∧∀j,x≤j→a.getD j 0=b.getD j 0)(hl:a.length=b.length)(h0:0<x)(h:a.getD (x-1) 0<b.getD (x-1) 0):aA [AV.c (Cell.v (.int .i64 (-1)))]=AV.int .i64 (fP (val a) (val b)):=by
 rw [KX (kR (x-1) ha.1 hb.1 hl (by omega) (λj hj=>hx.2 j (by omega)) h)];rfl
theorem abm(ha:CanL a)(hb:CanL b)(hx:x≤a.length∧∀j,x≤j→a.getD j 0=b.getD j 0)(hl:a.length=b.length)(h0:0<x)(h:b.getD (x-1) 0<a.getD (x-1) 0):aA [AV.c (Cell.v (.int .i64 1))]=AV.int .i64 (fP (val a) (val b)):=by
 rw [KA (kR (x-1) hb.1 ha.1 hl.symm (by omega) (λj hj=>(hx.2 j (by omega)).symm) h)];rfl
theorem aa7(hx:x≤a.length∧∀j,x≤j→a.getD j 0=b.getD j 0)(hl:a.length=b.length)(h0:x=0):aA [AV.c (Cell.v (.int .i64 0))]=AV.int .i64 (fP (val a) (val b)):=by
 rw [VD (congrArg val (Gy hl λj=>hx.2 j (by omega)))];rfl
theorem fz2(h:a.length=b.length):a.length≤a.length∧∀j,a.length≤j→a.getD j 0=b.getD j 0:=⟨Nat.le_refl _,λj hj=>by rw [getD_none hj,getD_none (by omega)]⟩
end
theorem nS{v m:Int}(h:0≤v):v.tmod m=v % m:=Int.tmod_eq_emod_of_nonneg h
theorem oq{v m:Int}(h:0≤v):v.tdiv m=v / m:=Int.tdiv_eq_ediv_of_nonneg h
theorem IG{o:List Nat}{k d i T:Nat}{v:Int}(hi:i=k)(hv:v=(d:Int)):some (Bk.grow T 1 ((o.map λx=>[Cell.v (u32 x)]).set i [Cell.v (.int .u32 v)]))=some (Bk.grow T 1 ((o.set k d).map λx=>[Cell.v (u32 x)])):=by
 subst hi hv;rw [List.map_set];rfl
theorem Dl(n T:Nat):some (Bk.grow T 1 (List.replicate n [Cell.v (.int .u32 0)]))=some (Bk.grow T 1 ((List.replicate n 0).map λx=>[Cell.v (u32 x)])):=by
 rw [List.map_replicate];rfl
theorem iS{k:IntKind}{a b:Int}(h:a=b):some (AV.int k a)=some (AV.int k b):=by rw [h]
theorem EU{o:List Nat}{d T:Nat}{v:Int}(hv:v=(d:Int)):some (Bk.grow T 1 ((o.map λx=>[Cell.v (u32 x)])++[[Cell.v (.int .u32 v)]]))=some (Bk.grow T 1 ((o++[d]).map λx=>[Cell.v (u32 x)])):=by
 subst hv;rw [List.map_append];rfl
theorem ZT{b n m:Nat}(h:n=m):some (AV.gs b n)=some (AV.gs b m):=by rw [h]
theorem abK{o:List Nat}{d:Nat}:Cell.sl 1 ((o.map λx=>[Cell.v (u32 x)])++[[Cell.v (.int .u32 ((d:Nat):Int))]])=aX (o++[d]):=by
 unfold aX;rw [List.map_append];rfl
theorem WU{l:List Nat}{n v:Nat}(h:Lb l)(hl:l.length=n)(hv:val l=v):aA [AV.c (aX l)]=AV.c (aX (pad n v)):=cE (JO h hl hv)
theorem Zo{l:List Nat}{d n v:Nat}(h:Lb l)(hd:d<1000000000)(hl:l.length+1=n)(hv:val l+1000000000 ^ l.length*d=v):aA [AV.c (.sl 1 ((l.map λx=>[Cell.v (u32 x)])++[[Cell.v (.int .u32 ((d:Nat):Int))]]))]=AV.c (aX (pad n v)):=by
 rw [abK];exact WU (nP h hd) (by simpa using hl) (by rw [OI rfl];exact hv)
theorem Ad{o x y:List Nat}{k br:Nat}(hbo:Lb o)(hx:Lb x)(ho:o.length=x.length)(hk:k=x.length)(hy:y.length≤x.length)(hle:val y≤val x)(hv:val (o.take k)+val (y.take k)=val (x.take k)+1000000000 ^ k*br):val o=val x-val y:=by
 subst hk;have hlt:=eF o hbo;have hx0:=eF x hx;rw [bI (l:=o) (by omega),bI (l:=y) (by omega),bI (l:=x) (by omega)] at hv;rw [ho] at hlt;exact Ll hx0 hv hle hlt
theorem MJ{o x y:List Nat}{k br:Nat}(hbo:Lb o)(hx:Lb x)(ho:o.length=x.length)(hk:k=x.length)(hy:y.length≤x.length)(hle:val y≤val x)(hv:val (o.take k)+val (y.take k)=val (x.take k)+1000000000 ^ k*br):aA [AV.c (aX (ah o))]=AV.c (aX (lim (val x-val y))) :=
 lE (by rw [← Ad hbo hx ho hk hy hle hv,qM _ hbo])
theorem MP{o a b:List Nat}{i:Nat}(ho:o.length=a.length+b.length)(hi:i=a.length)(hv:val (o.take (i+b.length))=val (a.take i)*val b):val o=val a*val b:=by
 subst hi;rw [bI (l:=o) (by omega),bI (l:=a) (by omega)] at hv;exact hv
theorem Ve(la lb:Nat)(a b:List Nat):val ((List.replicate (la+lb) 0).take (0+lb))=val (a.take 0)*val b:=by
 rw [List.take_replicate,uO];simp [val]
theorem En{i k:Nat}:((i:Int)+(k:Int)).toNat=i+k:=by omega
theorem Ti{a o:List Nat}{b r:Nat}(h0:0<b)(hr:r<b)(ho:o.length=a.length)(hb:Lb o)(hv:val (a.drop 0)=b*val (o.drop 0)+r):
 aA [AV.c (aX o),AV.c (.sl 1 [[Cell.v (.int .u32 ((r:Nat):Int))]])]=AV.tup [AV.c (aX (pad a.length (val a / b))),AV.c (aX [val a % b])]:=by
 rw [List.drop_zero,List.drop_zero] at hv;have h1:val a / b=val o:=by rw [hv,Nat.mul_comm,Nat.add_comm,Nat.add_mul_div_right _ _ h0,Nat.div_eq_of_lt hr,Nat.zero_add]
 have h2:val a % b=r:=by rw [hv,Nat.mul_add_mod,Nat.mod_eq_of_lt hr]
 rw [h1,h2,← JO hb ho rfl];rfl
theorem Nl{n:Nat}(h:n<1000000000000000000000000000){x y z:Int}(hx:x=((n % 1000000000:Nat):Int))(hy:y=((n / 1000000000 % 1000000000:Nat):Int))(hz:z=((n / 1000000000 / 1000000000:Nat):Int)):
 aA [AV.c (.sl 1 [[Cell.v (.int .u32 x)],[Cell.v (.int .u32 y)],[Cell.v (.int .u32 z)]])]=AV.c (aX (pad 3 n)):=by
 subst hx hy hz;refine cE ?_;simp only [pad];rw [show n / 1000000000 / 1000000000 % 1000000000=n / 1000000000 / 1000000000 by omega];rfl
theorem OB{n:Nat}(h:n<18446744073709551616):(lim n).length≤3:=lD (by omega)
theorem Hl{n m:Nat}{o:List Nat}(h:m≤n∧lim n=o++lim m)(h0:0<m):m / 1000000000≤n∧lim n=(o++[m % 1000000000])++lim (m / 1000000000):=by
 refine ⟨Nat.le_trans (Nat.div_le_self _ _) h.1, ?_⟩;rw [h.2,jl (by omega:m≠0)];simp
theorem NG{n m:Nat}{o:List Nat}(h:m≤n∧lim n=o++lim m)(h0:m=0):aA [AV.c (aX o)]=AV.c (aX (lim n)):=lE (by rw [h.2,h0,eU,List.append_nil])
theorem LH{n m:Nat}{o:List Nat}(hn:n<18446744073709551616)(h:m≤n∧lim n=o++lim m)(h0:0<m):o.length+1≤3:=by
 have h1:=congrArg List.length h.2;have h2:=OB hn;rw [jl (by omega:m≠0)] at h1;simp at h1;omega
theorem Xf{a:Int}(h:(lim a.natAbs).length=0):aA [AV.c (Cell.v (.int .u64 0)),AV.c (Cell.v (.bool true))]=AV.tup [.int .u64 ((if sz a≤2 then a.natAbs else 0:Nat):Int),.bool (decide (sz a≤2))]:=by
 have h1:sz a≤2:=by unfold sz;omega
 rw [if_pos h1,decide_eq_true h1,bW.1 h];rfl
theorem YF{a:Int}{x:Int}(h:(lim a.natAbs).length=1)(hx:x=(((lim a.natAbs).getD 0 0:Nat):Int)):aA [AV.c (Cell.v (.int .u64 x)),AV.c (Cell.v (.bool true))]=AV.tup [.int .u64 ((if sz a≤2 then a.natAbs else 0:Nat):Int),.bool (decide (sz a≤2))]:=by
 have h1:sz a≤2:=by unfold sz;omega
 rw [if_pos h1,decide_eq_true h1,hx,Uu h];rfl
theorem Xq{a:Int}{x:Int}(h:(lim a.natAbs).length=2)(hx:x=(((lim a.natAbs).getD 1 0*1000000000+(lim a.natAbs).getD 0 0:Nat):Int)):aA [AV.c (Cell.v (.int .u64 x)),AV.c (Cell.v (.bool true))]=AV.tup [.int .u64 ((if sz a≤2 then a.natAbs else 0:Nat):Int),.bool (decide (sz a≤2))]:=by
 have h1:sz a≤2:=by unfold sz;omega
 rw [if_pos h1,decide_eq_true h1,hx,Vr h];rfl
theorem YG{a:Int}(h:2<(lim a.natAbs).length):aA [AV.c (Cell.v (.int .u64 0)),AV.c (Cell.v (.bool false))]=AV.tup [.int .u64 ((if sz a≤2 then a.natAbs else 0:Nat):Int),.bool (decide (sz a≤2))]:=by
 have h1:¬sz a≤2:=by unfold sz;omega
 rw [if_neg h1,decide_eq_false h1];rfl
theorem Ru:Int.toNat 0=0:=rfl
theorem Og:Int.toNat 1=1:=rfl
theorem Qd(r g:Nat):((r:Int)*1000000000+(g:Int))=((r*1000000000+g:Nat):Int):=by omega
theorem OY(t b:Nat):(t:Int) / (b:Int)=((t / b:Nat):Int):=rfl
theorem QO(t b:Nat):(t:Int) % (b:Int)=((t % b:Nat):Int):=rfl
theorem Sm{a:List Nat}{b:Nat}(ha:Lb a)(h0:0<b)(h1:b<1000000000):Lb (pad a.length (val a / b))∧Lb [val a % b]∧val a=b*val (pad a.length (val a / b))+val [val a % b]∧val [val a % b]<b∧(pad a.length (val a / b)).length=a.length∧[val a % b].length=1:=by
 have hm:=Nat.mod_lt (val a) h0;have hv:val [val a % b]=val a % b:=by simp [val]
 refine ⟨rF _ _,Lb.cons (by omega) Lb.nil, ?_,by rw [hv];exact hm,Jq _ _,rfl⟩;rw [jM _ _ (Nat.lt_of_le_of_lt (Nat.div_le_self _ _) (eF a ha)),hv,Nat.div_add_mod]
def RF(b:List Nat):Nat:=1000000000 / ((ah b).getD ((ah b).length-1) 0+1)
def SE(a b:List Nat):Nat:=if (ah b).length=1 then (ah a).length else if val a<val b then 0 else (ah a).length+2-(ah b).length
def PG(a b:List Nat):Nat:=if (ah b).length=1 then 1 else if val a<val b then (ah a).length else (lim (val a % val b*RF b)).length
theorem Xw{a b U:List Nat}{n q rs:Nat}(hb:Lb U)(hv:val (U.take n)=val U)(h1:val a*RF b=val b*RF b*q+val U)(h2:val a=val b*q+rs)(h3:rs<val b):(ah (U.take n)).length=(lim (val a % val b*RF b)).length:=by
 have e1:val a % val b=rs:=by rw [h2,Nat.mul_add_mod,Nat.mod_eq_of_lt h3]
 have e2:val U=rs*RF b:=by
  rw [h2,Nat.add_mul] at h1;have:val b*q*RF b=val b*RF b*q:=by grind
  omega
 rw [e1,← e2,← hv,qM _ (hb.take n)]
theorem UQ{b:List Nat}(hb:Lb b):0<RF b:=by
 have:=(mY hb).getD ((ah b).length-1);unfold RF;exact Nat.div_pos (by omega) (by omega)
theorem YX{a b:List Nat}(ha:Lb a)(hb:Lb b)(h0:0<val b):val (pad (SE a b) (val a / val b))=val a / val b:=by
 refine jM _ _ ?_;have hva:=eF _ (mY ha);rw [dP] at hva;unfold SE;split
 ·exact Nat.lt_of_le_of_lt (Nat.div_le_self _ _) hva
 ·split
  ·rw [Nat.div_eq_of_lt (by assumption)];decide
  ·rename_i h1 h2;have hne:ah b≠[]:=λe=>by have:=dP b;rw [e] at this;simp [val] at this;omega
   have hp:=BU (dR hb) hne;rw [dP] at hp;have hl:0<(ah b).length:=List.length_pos_iff.2 hne
   have hle:(ah b).length≤(ah a).length:=by
    rcases Nat.lt_or_ge (ah a).length (ah b).length with h|h
    ·have:=fK (dR ha) (dR hb) h;rw [dP,dP] at this;omega
    ·exact h
   rw [Nat.div_lt_iff_lt_mul h0];refine Nat.lt_of_lt_of_le hva (Nat.le_trans ?_ (Nat.mul_le_mul_left _ hp));rw [← Nat.pow_add];exact Nat.pow_le_pow_right (by decide) (by omega)
theorem XO{a b:List Nat}(ha:Lb a)(hb:Lb b)(h0:0<val b):val (pad (PG a b) (val a % val b))=val a % val b:=by
 refine jM _ _ ?_;have hm:=Nat.mod_lt (val a) h0;have hvb:=eF _ (mY hb);have hva:=eF _ (mY ha);rw [dP] at hva hvb;unfold PG;split
 ·rename_i h;rw [h] at hvb;omega
 ·split
  ·exact Nat.lt_of_le_of_lt (Nat.mod_le _ _) hva
  ·have:=eF _ (bY (val a % val b*RF b));rw [aH] at this;exact Nat.lt_of_le_of_lt (Nat.le_mul_of_pos_right _ (UQ hb)) this
end Go.Sw
namespace Go.Sw
open Go Go.RowKit
def vF(s:ByteArray):List Nat:=s.data.toList.map λb=>b.toNat
theorem tX(s:ByteArray):(vF s).length=s.size:=by simp [vF]
theorem UG(s:ByteArray)(j:Nat):(s.data.toList.getD j 0).toNat=(vF s).getD j 0:=by
 unfold vF;rw [List.getD_eq_getElem?_getD,List.getD_eq_getElem?_getD,List.getElem?_map];cases s.data.toList[j]?<;>rfl
theorem VT{a b:ByteArray}(h:vF a=vF b):a=b:=by
 have:a.data.toList=b.data.toList:=by
  unfold vF at h;exact (List.map_inj_right (λx y h=>UInt8.toNat_inj.1 h)).1 h
 cases a;cases b;simpa using this
theorem JI(a b:ByteArray):(a.toList == b.toList)=decide (vF a=vF b):=by
 rw [ByteArray.toList_eq,ByteArray.toList_eq]
 by_cases h:vF a=vF b
 ·rw [decide_eq_true h,VT h];simp
 ·rw [decide_eq_false h];rw [beq_eq_false_iff_ne];exact λe=>h (by unfold vF;rw [e])
theorem Lh{s:ByteArray}{i:Int}{k:Int→Prop}(hp:Pr (0≤i∧i<s.size))(hk:k (((vF s).getD i.toNat 0:Nat):Int)):StrAt s i k:=by
 obtain ⟨⟨h1,h2⟩⟩:=hp;exact ⟨i.toNat,by omega,by omega,by rw [UG];exact hk⟩
end Go.Sw
namespace Go.Sw
open Go Go.RowKit
@[reducible] def AV.str(s:ByteArray):AV:=.c (.v (.string s))
section
variable {s b:ByteArray} {k m:Nat}
end
end Go.Sw
namespace Go.Sw
open Go
theorem X3{a b:ByteArray}(h:a=b):aA [AV.c (Cell.v (.string a))]=AV.str b:=by subst h;rfl
end Go.Sw
namespace Go.Sw
open Go Go.Lib
def dgl(n:Nat):List Nat:=(decDigits n).map λb=>b.toNat
theorem VY(n:Nat):(dgl n).length=nDigits n:=by unfold dgl;rw [List.length_map,decDigits_length]
theorem Xy(l:List UInt8):vF ⟨l.toArray⟩=l.map λb=>b.toNat:=rfl
theorem U9(n:Int):vF (qU n)=(if n<0 then [45] else [])++dgl n.natAbs:=by
 unfold qU;rw [Xy,List.map_append];congr 1;split<;>rfl
theorem Ah(n:Int):(qU n).size=(if n<0 then 1 else 0)+nDigits n.natAbs:=by
 rw [← tX,U9,List.length_append,VY];congr 1;split<;>rfl
theorem JJ:∀(i m:Nat),(lim m).getD i 0=m / 1000000000 ^ i % 1000000000
 |0,m=>by
  by_cases h:m=0
  ·subst h;rw [eU];rfl
  ·rw [jl h];simp
 |i+1,m=>by
  by_cases h:m=0
  ·subst h;simp [eU]
  ·rw [jl h,List.getD_cons_succ,JJ i,Nat.div_div_eq_div_mul,← Nat.pow_succ']
theorem Oz:∀(i m:Nat),i<(lim m).length→0<m / 1000000000 ^ i
 |0,m,h=>by
  have:m≠0:=λe=>by subst e;rw [eU] at h;exact absurd h (by decide)
  simp;omega
 |i+1,m,h=>by
  have:m≠0:=λe=>by subst e;rw [eU] at h;exact absurd h (by simp)
  rw [jl this,List.length_cons] at h;have:=Oz i (m / 1000000000) (by omega)
  rwa [Nat.div_div_eq_div_mul,← Nat.pow_succ'] at this
theorem DN(m:Nat):m<1000000000 ^ (lim m).length:=by
 have:=eF (lim m) (bY m)
 rwa [aH] at this
theorem Xl{i m:Nat}(h:i<(lim m).length):(lim m)[i]?=some (m / 1000000000 ^ i % 1000000000):=by
 have:=JJ i m;rw [List.getD_eq_getElem?_getD,List.getElem?_eq_getElem h] at this;rw [List.getElem?_eq_getElem h];exact congrArg some this
theorem Eo{m:Nat}(h:0<(lim m).length):m / 1000000000 ^ ((lim m).length-1) % 1000000000=m / 1000000000 ^ ((lim m).length-1):=by
 apply Nat.mod_eq_of_lt;apply Nat.div_lt_of_lt_mul;have:=DN m
 rwa [← Nat.pow_succ,show ((lim m).length-1).succ=(lim m).length by omega]
theorem GV{m i:Nat}(h:i+1<(lim m).length):
 decDigits (m / 1000000000 ^ i)=decDigits (m / 1000000000 ^ (i+1))++List.replicate (9-nDigits (m / 1000000000 ^ i % 1000000000)) 48++decDigits (m / 1000000000 ^ i % 1000000000):=by
 have h1:=Oz (i+1) m h;have hx:m / 1000000000 ^ i % 1000000000<10 ^ 9:=Nat.mod_lt _ (by decide);have e:m / 1000000000 ^ (i+1)=m / 1000000000 ^ i / 1000000000:=by rw [Nat.div_div_eq_div_mul,Nat.pow_succ]
 rw [List.append_assoc,← DU 9 _ (by decide) hx,← JR 9 _ _ h1 hx,e];congr 1;have:=Nat.div_add_mod (m / 1000000000 ^ i) 1000000000;omega
theorem FB{m i:Nat}(h:0<(lim m).length):(decDigits (m / 1000000000 ^ i)).length≤9*(lim m).length:=by
 rw [decDigits_length];apply rG (by omega);refine Nat.lt_of_le_of_lt (Nat.div_le_self _ _) ?_;rw [Nat.pow_mul];exact DN m
theorem wY{x:Nat}(h:x<1000000000):1≤nDigits x∧nDigits x≤9:=⟨nDigits_pos x,rG (by decide) h⟩
def bv(l:List UInt8):List Value:=l.map λb => .int .u8 (b.toNat:Int)
theorem PN(l:List UInt8):(bv l).length=l.length:=by unfold bv;simp
theorem uV(a b:List UInt8):bv (a++b)=bv a++bv b:=by unfold bv;rw [List.map_append]
theorem Qi(l:List UInt8):strCells ⟨l.toArray⟩=bv l:=rfl
theorem qE(n:Nat):(qj n).size=nDigits n:=by
 show (decDigits n).toArray.size=_;rw [List.size_toArray,decDigits_length]
end Go.Sw
namespace Go.Sw
open Go Go.Lib Go.RowKit
theorem Ym{n:Int}{k:Nat}(h:sz n≤k)(hk:0<k):nDigits n.natAbs≤9*k:=by
 apply rG (by omega);refine Nat.lt_of_lt_of_le (DN n.natAbs) ?_;rw [Nat.pow_mul];exact Nat.pow_le_pow_right (by decide) h
theorem Uz{n:Int}{k:Nat}(h:sz n≤k)(hk:0<k):(qU n).size≤9*k+1:=by
 have:=Ym h hk;rw [Ah];split<;>omega
end Go.Sw
