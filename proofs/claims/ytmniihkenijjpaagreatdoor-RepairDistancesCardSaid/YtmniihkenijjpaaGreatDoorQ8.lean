/-
  Rules of the abstract run, plain laws, and what functions answer, for the law RepairDistances.
  Conditions: none.
-/
import Derived.Test.YtmniihkenijjpaaGreatDoorQ7
import Derived.Laws.Strings
import Derived.Lib.Bytealg
import Derived.Lib.AppendStr
set_option linter.all false
namespace Go.Sw
open Go
theorem Bnd.cg{f g:Nat→Rat}(h:Bnd f)(e:∀n,f n=g n):Bnd g:=by rwa [funext e] at h
def ConS(p:Int × Int)(f:Nat→Rat):Prop:=∃g:Nat→Rat,NulS (λn=>g n-f n)∧∀n,con p (g n)
theorem ConS.const{p:Int × Int}{q:Rat}(h:con p q):ConS p λ_=>q:=⟨λ_=>q,NulS.zero.cg λn=>by grind,λ_=>h⟩
theorem ConS.cg{p:Int × Int}{f g:Nat→Rat}(h:ConS p f)(e:∀n,f n=g n):ConS p g:=by rwa [funext e] at h
theorem vU(q:Rat):iO (decide (q.num<0)) (lim q.num.natAbs) (decide ((q.den:Int)<0)) (lim (q.den:Int).natAbs)=true:=by
 rw [kV];have h1:=den_pos q;have h2:=q.reduced;rw [Bool.and_eq_true,decide_eq_true_eq,decide_eq_true_eq];exact ⟨pI.2 h1,by rw [Int.natAbs_natCast];exact congrArg Int.ofNat h2⟩
structure Rt where
 a:Rat
 b:Rat
 c:Rat
end Go.Sw
namespace Go.Sw
open Go
section
variable (a b c d e f:Rat)
end
end Go.Sw
namespace Go.Sw
open Go
theorem afU{x y:Int}(h:0<y):decide (((Nat.gcd x.natAbs y.natAbs:Nat):Int)=1)=iO (decide (x<0)) (lim x.natAbs) (decide (y<0)) (lim y.natAbs):=by
 rw [kV,pI.2 h];simp
theorem afy{x y:Int}(h:y≤0):false=iO (decide (x<0)) (lim x.natAbs) (decide (y<0)) (lim y.natAbs):=by
 rw [kV];have:¬jo y=1:=λe=>absurd (pI.1 e) (by omega)
 simp [this]
theorem Ul{e0 e1 e:List Cell}{es:List (List Cell)}{k:List Cell→Prop}(hk:k e):Elem (e0 :: e1 :: e :: es) 2 k:=⟨2,e,rfl,rfl,hk⟩
end Go.Sw
namespace Go.Sw
open Go
section
variable {a b c d m n x y:Rat}
end
section
variable {fx fy tx ty x y:Rat} {r fz tz:Int}
end
section
variable {fx fy tx ty x y:Rat} {r fz tz:Int}
end
end Go.Sw
namespace Go.Sw
open Go
section
variable {m:Nat} {M:Int} {a b:Rat}
end
end Go.Sw
namespace Go.Sw
open Go Go.RowKit
def lF:List Cell→Prop
 |[]=>True
 |.sl _ es :: r=>es.length≤9223372036854775807∧lF r
 |_ :: r=>lF r
def oK:List AV→Prop
 |[]=>True
 |v :: r=>lF (cellsOf v)∧oK r
theorem tZ{w:World}{X:List Nat}:∀{us:List Value} {cs:List Cell},RepL w X us cs→lF cs
 |us,[],_=>trivial
 |us,.v u :: r,h=>by
  obtain ⟨_,us',_,_,h2⟩:=h.inv;show lF r;exact tZ h2
 |us,.p ps :: r,h=>by
  obtain ⟨_,us',_,_,h2⟩:=h.inv;show lF r;exact tZ h2
 |us,.fn ff ps :: r,h=>by
  obtain ⟨_,us',_,_,h2⟩:=h.inv;show lF r;exact tZ h2
 |us,.ob i n :: r,h=>by
  obtain ⟨_,us',_,_,h2⟩:=h.inv;show lF r;exact tZ h2
 |us,.sl s es :: r,h=>by
  obtain ⟨_,us',_,h1,h2⟩:=h.inv;obtain ⟨A,cap,uss,_,h3,h4,_⟩:=RepS.of_sl h1;exact ⟨Nat.le_trans h3 h4,tZ h2⟩
theorem NM{w:World}{X:List Nat}:∀{vs:List Value} {xs:List AV},vs.length=xs.length→(∀(i:Nat) u v,vs[i]?=some u→xs[i]?=some v→RepD w X u v)→oK xs
 |_,[],_,_=>trivial
 |[],_ :: _,h,_=>by simp at h
 |v :: vs,x :: xs,hl,h=>⟨by
  obtain ⟨us,_,h1⟩:=(h 0 v x rfl rfl).cells
  exact tZ h1,NM (by simpa using hl) λi u y a b=>h (i+1) u y (by simpa using a) (by simpa using b)⟩
theorem gu{P:Program}[Wld P]{f:FuncId}{xs:List AV}{r:AV}(hb:dJ P f=true)(h:oK xs→Den P f xs r)(hn:mV xs=true:=by rfl):Den P f xs r :=
 Den.of ⟨hb,λw X vs ho hX hl hr=>((h (NM hl hr)).old hn).2 w X vs ho hX hl hr⟩ hn
end Go.Sw
namespace Go.Sw
open Go
def pad:Nat→Nat→List Nat
 |0,_=>[]
 |n+1,v=>v % 1000000000 :: pad n (v / 1000000000)
theorem MN:∀(n v:Nat),(pad n v).length=n
 |0,_=>rfl
 |n+1,v=>by simp [pad,MN]
theorem lQ:∀(n v:Nat),Lb (pad n v)
 |0,_=>Lb.nil
 |n+1,v=>Lb.cons (Nat.mod_lt _ (by decide)) (lQ n _)
theorem kY:∀(n v:Nat),v<1000000000 ^ n→val (pad n v)=v
 |0,v,h=>by simp at h;subst h;rfl
 |n+1,v,h=>by
  have:v / 1000000000<1000000000 ^ n:=Nat.div_lt_of_lt_mul (by rw [Nat.pow_succ,Nat.mul_comm] at h;exact h);simp only [pad,val,kY n _ this];omega
theorem zH:∀(l:List Nat),Lb l→l=pad l.length (val l)
 |[],_=>rfl
 |x :: r,h=>by
  have h1:=h.head;have h2:=zH r h.tail;simp only [List.length_cons,pad,val];rw [show (x+1000000000*val r) % 1000000000=x by omega,show (x+1000000000*val r) / 1000000000=val r by omega,← h2]
theorem Nv{l:List Nat}{n v:Nat}(h:Lb l)(hl:l.length=n)(hv:val l=v):bJ l=bJ (pad n v):=by
 subst hl hv;rw [← zH l h]
theorem cE{c c':Cell}(h:c=c'):aB [AV.c c]=AV.c c':=by rw [h];rfl
theorem lE{l l':List Nat}(h:l=l'):aB [AV.c (bJ l)]=AV.c (bJ l'):=by rw [h];rfl
theorem adJ{l:List Nat}{k:Nat}{i:Int}(hk:k≤l.length)(h0:¬k=0)(hi:i.toNat=k-1):some (AV.c (.sl 1 ((((l.take k).map λx=>[Cell.v (u32 x)]).take i.toNat).drop (Int.toNat 0))))=some (AV.c (bJ (l.take (k-1)))):=by
 rw [hi];show some (AV.c (.sl 1 (List.drop 0 _)))=_;rw [List.drop_zero,← List.map_take,List.take_take,Nat.min_eq_left (by omega)]
theorem CQ{x:Nat}:((x:Int)-1).toNat=x-1:=by omega
theorem Wi{x:Nat}:((x:Int)+1).toNat=x+1:=by omega
theorem Dp{x n:Nat}(h:x≤n):min x n=x:=Nat.min_eq_left h
theorem wC{l:List Nat}{x:Nat}(hx:x≤l.length∧∀j,x≤j→l.getD j 0=0)(h:x=0∨(l.take x).getD (x-1) 0≠0):aB [AV.c (bJ (l.take x))]=AV.c (bJ (ah l)) :=
 lE (mQ l x hx.1 hx.2 (Qn hx.1 h))
theorem zE{neg b:Bool}{l:List Nat}(hb:Lb l)(h:b=(neg && decide (0<val l))):aB [AV.agg [Cell.v (.bool b),bJ (ah l)]]=Z (dW neg (val l)):=by
 subst h;show AV.agg [_,_]=AV.agg [zs _,zl _];unfold zs zl;rw [xH,lI,kC l hb]
theorem Ld{l:List Nat}(hb:Lb l):0<(ah l).length↔0<val l:=by
 rw [← kC l hb];have:=dI (n:=val l);omega
theorem zE1{b:Bool}{l:List Nat}(hb:Lb l)(h:b=decide ((((ah l).length:Nat):Int) > 0)):aB [AV.agg [Cell.v (.bool b),bJ (ah l)]]=Z (dW true (val l)) :=
 zE hb (by have:=Ld hb;subst h;rw [Bool.true_and,decide_eq_decide];omega)
theorem zE0{l:List Nat}(hb:Lb l):aB [AV.agg [Cell.v (.bool false),bJ (ah l)]]=Z (dW false (val l)):=zE hb rfl
theorem aek{l:List Nat}{x:Nat}{i j:Int}(hx:x≤l.length∧∀j,x≤j→l.getD j 0=0)(h:x=0∨l.getD (x-1) 0≠0)(hi:i.toNat=0)(hj:j.toNat=x):Cell.sl 1 (List.drop i.toNat (List.take j.toNat (l.map λx=>[Cell.v (u32 x)])))=bJ (ah l):=by
 rw [hi,hj,List.drop_zero,← List.map_take,mQ l x hx.1 hx.2 h]
theorem sg1{b:Bool}{l:List Nat}{x:Nat}{i j:Int}(hb:Lb l)(hx:x≤l.length∧∀j,x≤j→l.getD j 0=0)(h:x=0∨l.getD (x-1) 0≠0)(hi:i.toNat=0)(hj:j.toNat=x)(he:b=decide (((x:Nat):Int) > 0)):
 aB [AV.agg [Cell.v (.bool b),Cell.sl 1 (List.drop i.toNat (List.take j.toNat (l.map λx=>[Cell.v (u32 x)])))]]=Z (dW true (val l)):=by
 rw [aek hx h hi hj];have hl:=congrArg List.length (mQ l x hx.1 hx.2 h);rw [List.length_take,Nat.min_eq_left hx.1] at hl;exact zE1 hb (by rw [he,hl])
theorem sg0{l:List Nat}{x:Nat}{i j:Int}(hb:Lb l)(hx:x≤l.length∧∀j,x≤j→l.getD j 0=0)(h:x=0∨l.getD (x-1) 0≠0)(hi:i.toNat=0)(hj:j.toNat=x):
 aB [AV.agg [Cell.v (.bool false),Cell.sl 1 (List.drop i.toNat (List.take j.toNat (l.map λx=>[Cell.v (u32 x)])))]]=Z (dW false (val l)):=by
 rw [aek hx h hi hj];exact zE0 hb
theorem adC{n:Nat}(h0:0<n)(h:n≤9223372036854775807):some (AV.int .i64 (IntKind.i64.wrap ((n:Int)-1)))=some (AV.int .i64 ((n-1:Nat):Int)):=by
 rw [bY (by omega) (by omega)];congr 2;omega
theorem aa1{n:Nat}(h:n≤9223372036854775807):some (AV.int .i64 (IntKind.i64.wrap ((n:Int)-1)))=some (AV.int .i64 ((n:Int)-1)):=by
 rw [bY (by omega) (by omega)]
theorem BK{n:Nat}(h0:0<n)(h:n≤9223372036854775807):some (AV.int .i64 (IntKind.i64.wrap ((n:Int)-1-1)))=some (AV.int .i64 (((n-1:Nat):Int)-1)):=by
 rw [bY (by omega) (by omega)];congr 2;omega
section
variable {a b:List Nat} {x:Nat}
theorem Nj(ha:CanL a)(hb:CanL b)(h:a.length<b.length):aB [AV.c (Cell.v (.int .i64 (-1)))]=AV.int .i64 (eU (val a) (val b)):=by rw [Mc (iC ha hb h)];rfl
theorem MJ(ha:CanL a)(hb:CanL b)(h:b.length<a.length):aB [AV.c (Cell.v (.int .i64 1))]=AV.int .i64 (eU (val a) (val b)):=by rw [NV (iC hb ha h)];rfl
theorem Ze(ha:CanL a)(hb:CanL b)(hx:x≤a.length∧∀j,x≤j→a.getD j 0=b.getD j 0)(hl:a.length=b.length)(h0:0<x)(h:a.getD (x-1) 0<b.getD (x-1) 0):aB [AV.c (Cell.v (.int .i64 (-1)))]=AV.int .i64 (eU (val a) (val b)):=by
 rw [Mc (mM (x-1) ha.1 hb.1 hl (by omega) (λj hj=>hx.2 j (by omega)) h)];rfl
theorem Y8(ha:CanL a)(hb:CanL b)(hx:x≤a.length∧∀j,x≤j→a.getD j 0=b.getD j 0)(hl:a.length=b.length)(h0:0<x)(h:b.getD (x-1) 0<a.getD (x-1) 0):aB [AV.c (Cell.v (.int .i64 1))]=AV.int .i64 (eU (val a) (val b)):=by
 rw [NV (mM (x-1) hb.1 ha.1 hl.symm (by omega) (λj hj=>(hx.2 j (by omega)).symm) h)];rfl
theorem ZX(hx:x≤a.length∧∀j,x≤j→a.getD j 0=b.getD j 0)(hl:a.length=b.length)(h0:x=0):aB [AV.c (Cell.v (.int .i64 0))]=AV.int .i64 (eU (val a) (val b)):=by
 rw [Xl (congrArg val (Ig hl λj=>hx.2 j (by omega)))];rfl
theorem fz2(h:a.length=b.length):a.length≤a.length∧∀j,a.length≤j→a.getD j 0=b.getD j 0:=⟨Nat.le_refl _,λj hj=>by rw [getD_none hj,getD_none (by omega)]⟩
end
theorem kN{v m:Int}(h:0≤v):v.tmod m=v % m:=Int.tmod_eq_emod_of_nonneg h
theorem kQ{v m:Int}(h:0≤v):v.tdiv m=v / m:=Int.tdiv_eq_ediv_of_nonneg h
theorem yt{o:List Nat}{k d i T:Nat}{v:Int}(hi:i=k)(hv:v=(d:Int)):some (Bk.grow T 1 ((o.map λx=>[Cell.v (u32 x)]).set i [Cell.v (.int .u32 v)]))=some (Bk.grow T 1 ((o.set k d).map λx=>[Cell.v (u32 x)])):=by
 subst hi hv;rw [List.map_set];rfl
theorem sQ(n T:Nat):some (Bk.grow T 1 (List.replicate n [Cell.v (.int .u32 0)]))=some (Bk.grow T 1 ((List.replicate n 0).map λx=>[Cell.v (u32 x)])):=by
 rw [List.map_replicate];rfl
theorem iS{k:IntKind}{a b:Int}(h:a=b):some (AV.int k a)=some (AV.int k b):=by rw [h]
theorem afR(l:List Nat)(i d:Nat):(l.map λx=>[Cell.v (u32 x)]).set i [Cell.v (.int .u32 ((d:Nat):Int))]=(l.set i d).map λx=>[Cell.v (u32 x)]:=by rw [List.map_set];rfl
theorem Vd{o x y:List Nat}{k cr v:Nat}(ho:o.length=x.length+1)(hk:k=x.length)(hy:y.length≤x.length)(hb:Lb o)(hc:cr≤1)(hv:val (o.take k)+1000000000 ^ k*cr=val (x.take k)+val (y.take k))(e:v=val x+val y):
 aB [AV.c (bJ (ah (o.set x.length cr)))]=AV.c (bJ (lim v)):=lE (by
 have h1:=VN ho hk hy hv
 rw [e,← h1,kC _ (eG hb (by omega))])
theorem JF{o:List Nat}{d T:Nat}{v:Int}(hv:v=(d:Int)):some (Bk.grow T 1 ((o.map λx=>[Cell.v (u32 x)])++[[Cell.v (.int .u32 v)]]))=some (Bk.grow T 1 ((o++[d]).map λx=>[Cell.v (u32 x)])):=by
 subst hv;rw [List.map_append];rfl
theorem gsE{b n m:Nat}(h:n=m):some (AV.gs b n)=some (AV.gs b m):=by rw [h]
theorem ado{o:List Nat}{d:Nat}:Cell.sl 1 ((o.map λx=>[Cell.v (u32 x)])++[[Cell.v (.int .u32 ((d:Nat):Int))]])=bJ (o++[d]):=by
 unfold bJ;rw [List.map_append];rfl
theorem abj{l:List Nat}{n v:Nat}(h:Lb l)(hl:l.length=n)(hv:val l=v):aB [AV.c (bJ l)]=AV.c (bJ (pad n v)):=cE (Nv h hl hv)
theorem aea{l:List Nat}{d n v:Nat}(h:Lb l)(hd:d<1000000000)(hl:l.length+1=n)(hv:val l+1000000000 ^ l.length*d=v):aB [AV.c (.sl 1 ((l.map λx=>[Cell.v (u32 x)])++[[Cell.v (.int .u32 ((d:Nat):Int))]]))]=AV.c (bJ (pad n v)):=by
 rw [ado];exact abj (qo h hd) (by simpa using hl) (by rw [Va rfl];exact hv)
theorem DK{o x y:List Nat}{k br:Nat}(hbo:Lb o)(hx:Lb x)(ho:o.length=x.length)(hk:k=x.length)(hy:y.length≤x.length)(hle:val y≤val x)(hv:val (o.take k)+val (y.take k)=val (x.take k)+1000000000 ^ k*br):val o=val x-val y:=by
 subst hk;have hlt:=fP o hbo;have hx0:=fP x hx;rw [bK (l:=o) (by omega),bK (l:=y) (by omega),bK (l:=x) (by omega)] at hv;rw [ho] at hlt;exact OT hx0 hv hle hlt
theorem Qo{o x y:List Nat}{k br:Nat}(hbo:Lb o)(hx:Lb x)(ho:o.length=x.length)(hk:k=x.length)(hy:y.length≤x.length)(hle:val y≤val x)(hv:val (o.take k)+val (y.take k)=val (x.take k)+1000000000 ^ k*br):aB [AV.c (bJ (ah o))]=AV.c (bJ (lim (val x-val y))) :=
 lE (by rw [← DK hbo hx ho hk hy hle hv,kC _ hbo])
theorem DF{o a b:List Nat}{i:Nat}(ho:o.length=a.length+b.length)(hi:i=a.length)(hv:val (o.take (i+b.length))=val (a.take i)*val b):val o=val a*val b:=by
 subst hi;rw [bK (l:=o) (by omega),bK (l:=a) (by omega)] at hv;exact hv
theorem Oi(la lb:Nat)(a b:List Nat):val ((List.replicate (la+lb) 0).take (0+lb))=val (a.take 0)*val b:=by
 rw [List.take_replicate,pX];simp [val]
theorem zN{i k:Nat}:((i:Int)+(k:Int)).toNat=i+k:=by omega
theorem YW{a o:List Nat}{b r:Nat}(h0:0<b)(hr:r<b)(ho:o.length=a.length)(hb:Lb o)(hv:val (a.drop 0)=b*val (o.drop 0)+r):
 aB [AV.c (bJ o),AV.c (.sl 1 [[Cell.v (.int .u32 ((r:Nat):Int))]])]=AV.tup [AV.c (bJ (pad a.length (val a / b))),AV.c (bJ [val a % b])]:=by
 rw [List.drop_zero,List.drop_zero] at hv;have h1:val a / b=val o:=by rw [hv,Nat.mul_comm,Nat.add_comm,Nat.add_mul_div_right _ _ h0,Nat.div_eq_of_lt hr,Nat.zero_add]
 have h2:val a % b=r:=by rw [hv,Nat.mul_add_mod,Nat.mod_eq_of_lt hr]
 rw [h1,h2,← Nv hb ho rfl];rfl
theorem PK{n:Nat}(h:n<1000000000000000000000000000){x y z:Int}(hx:x=((n % 1000000000:Nat):Int))(hy:y=((n / 1000000000 % 1000000000:Nat):Int))(hz:z=((n / 1000000000 / 1000000000:Nat):Int)):
 aB [AV.c (.sl 1 [[Cell.v (.int .u32 x)],[Cell.v (.int .u32 y)],[Cell.v (.int .u32 z)]])]=AV.c (bJ (pad 3 n)):=by
 subst hx hy hz;refine cE ?_;simp only [pad];rw [show n / 1000000000 / 1000000000 % 1000000000=n / 1000000000 / 1000000000 by omega];rfl
theorem QX{n:Nat}(h:n<18446744073709551616):(lim n).length≤3:=iZ (by omega)
theorem LK{n m:Nat}{o:List Nat}(h:m≤n∧lim n=o++lim m)(h0:0<m):m / 1000000000≤n∧lim n=(o++[m % 1000000000])++lim (m / 1000000000):=by
 refine ⟨Nat.le_trans (Nat.div_le_self _ _) h.1, ?_⟩;rw [h.2,kJ (by omega:m≠0)];simp
theorem Ph{n m:Nat}{o:List Nat}(h:m≤n∧lim n=o++lim m)(h0:m=0):aB [AV.c (bJ o)]=AV.c (bJ (lim n)):=lE (by rw [h.2,h0,eH,List.append_nil])
theorem Qc{n m:Nat}{o:List Nat}(hn:n<18446744073709551616)(h:m≤n∧lim n=o++lim m)(h0:0<m):o.length+1≤3:=by
 have h1:=congrArg List.length h.2;have h2:=QX hn;rw [kJ (by omega:m≠0)] at h1;simp at h1;omega
theorem ab1{a:Int}(h:(lim a.natAbs).length=0):aB [AV.c (Cell.v (.int .u64 0)),AV.c (Cell.v (.bool true))]=AV.tup [.int .u64 ((if sz a≤2 then a.natAbs else 0:Nat):Int),.bool (decide (sz a≤2))]:=by
 have h1:sz a≤2:=by unfold sz;omega
 rw [if_pos h1,decide_eq_true h1,dI.1 h];rfl
theorem aaf{a:Int}{x:Int}(h:(lim a.natAbs).length=1)(hx:x=(((lim a.natAbs).getD 0 0:Nat):Int)):aB [AV.c (Cell.v (.int .u64 x)),AV.c (Cell.v (.bool true))]=AV.tup [.int .u64 ((if sz a≤2 then a.natAbs else 0:Nat):Int),.bool (decide (sz a≤2))]:=by
 have h1:sz a≤2:=by unfold sz;omega
 rw [if_pos h1,decide_eq_true h1,hx,Y4 h];rfl
theorem aaE{a:Int}{x:Int}(h:(lim a.natAbs).length=2)(hx:x=(((lim a.natAbs).getD 1 0*1000000000+(lim a.natAbs).getD 0 0:Nat):Int)):aB [AV.c (Cell.v (.int .u64 x)),AV.c (Cell.v (.bool true))]=AV.tup [.int .u64 ((if sz a≤2 then a.natAbs else 0:Nat):Int),.bool (decide (sz a≤2))]:=by
 have h1:sz a≤2:=by unfold sz;omega
 rw [if_pos h1,decide_eq_true h1,hx,WE h];rfl
theorem abf{a:Int}(h:2<(lim a.natAbs).length):aB [AV.c (Cell.v (.int .u64 0)),AV.c (Cell.v (.bool false))]=AV.tup [.int .u64 ((if sz a≤2 then a.natAbs else 0:Nat):Int),.bool (decide (sz a≤2))]:=by
 have h1:¬sz a≤2:=by unfold sz;omega
 rw [if_neg h1,decide_eq_false h1];rfl
theorem QC:Int.toNat 0=0:=rfl
theorem QI:Int.toNat 1=1:=rfl
theorem QD(r g:Nat):((r:Int)*1000000000+(g:Int))=((r*1000000000+g:Nat):Int):=by omega
theorem QF(t b:Nat):(t:Int) / (b:Int)=((t / b:Nat):Int):=rfl
theorem QG(t b:Nat):(t:Int) % (b:Int)=((t % b:Nat):Int):=rfl
theorem Uj{a:List Nat}{b:Nat}(ha:Lb a)(h0:0<b)(h1:b<1000000000):Lb (pad a.length (val a / b))∧Lb [val a % b]∧val a=b*val (pad a.length (val a / b))+val [val a % b]∧val [val a % b]<b∧(pad a.length (val a / b)).length=a.length∧[val a % b].length=1:=by
 have hm:=Nat.mod_lt (val a) h0;have hv:val [val a % b]=val a % b:=by simp [val]
 refine ⟨lQ _ _,Lb.cons (by omega) Lb.nil, ?_,by rw [hv];exact hm,MN _ _,rfl⟩;rw [kY _ _ (Nat.lt_of_le_of_lt (Nat.div_le_self _ _) (fP a ha)),hv,Nat.div_add_mod]
def Vz(b:List Nat):Nat:=1000000000 / ((ah b).getD ((ah b).length-1) 0+1)
def V9(a b:List Nat):Nat:=if (ah b).length=1 then (ah a).length else if val a<val b then 0 else (ah a).length+2-(ah b).length
def RS(a b:List Nat):Nat:=if (ah b).length=1 then 1 else if val a<val b then (ah a).length else (lim (val a % val b*Vz b)).length
theorem acv{a b U:List Nat}{n q rs:Nat}(hb:Lb U)(hv:val (U.take n)=val U)(h1:val a*Vz b=val b*Vz b*q+val U)(h2:val a=val b*q+rs)(h3:rs<val b):(ah (U.take n)).length=(lim (val a % val b*Vz b)).length:=by
 have e1:val a % val b=rs:=by rw [h2,Nat.mul_add_mod,Nat.mod_eq_of_lt h3]
 have e2:val U=rs*Vz b:=by
  rw [h2,Nat.add_mul] at h1;have:val b*q*Vz b=val b*Vz b*q:=by grind
  omega
 rw [e1,← e2,← hv,kC _ (hb.take n)]
theorem Ym{b:List Nat}(hb:Lb b):0<Vz b:=by
 have:=(mO hb).getD ((ah b).length-1);unfold Vz;exact Nat.div_pos (by omega) (by omega)
theorem abu{a b:List Nat}(ha:Lb a)(hb:Lb b)(h0:0<val b):val (pad (V9 a b) (val a / val b))=val a / val b:=by
 refine kY _ _ ?_;have hva:=fP _ (mO ha);rw [eP] at hva;unfold V9;split
 ·exact Nat.lt_of_le_of_lt (Nat.div_le_self _ _) hva
 ·split
  ·rw [Nat.div_eq_of_lt (by assumption)];decide
  ·rename_i h1 h2;have hne:ah b≠[]:=λe=>by have:=eP b;rw [e] at this;simp [val] at this;omega
   have hp:=FZ (fD hb) hne;rw [eP] at hp;have hl:0<(ah b).length:=List.length_pos_iff.2 hne
   have hle:(ah b).length≤(ah a).length:=by
    rcases Nat.lt_or_ge (ah a).length (ah b).length with h|h
    ·have:=iC (fD ha) (fD hb) h;rw [eP,eP] at this;omega
    ·exact h
   rw [Nat.div_lt_iff_lt_mul h0];refine Nat.lt_of_lt_of_le hva (Nat.le_trans ?_ (Nat.mul_le_mul_left _ hp));rw [← Nat.pow_add];exact Nat.pow_le_pow_right (by decide) (by omega)
theorem abQ{a b:List Nat}(ha:Lb a)(hb:Lb b)(h0:0<val b):val (pad (RS a b) (val a % val b))=val a % val b:=by
 refine kY _ _ ?_;have hm:=Nat.mod_lt (val a) h0;have hvb:=fP _ (mO hb);have hva:=fP _ (mO ha);rw [eP] at hva hvb;unfold RS;split
 ·rename_i h;rw [h] at hvb;omega
 ·split
  ·exact Nat.lt_of_le_of_lt (Nat.mod_le _ _) hva
  ·have:=fP _ (aQ (val a % val b*Vz b));rw [aA] at this;exact Nat.lt_of_le_of_lt (Nat.le_mul_of_pos_right _ (Ym hb)) this
end Go.Sw
namespace Go.Sw
open Go Go.RowKit
def oH(s:ByteArray):List Nat:=s.data.toList.map λb=>b.toNat
theorem kZ(s:ByteArray):(oH s).length=s.size:=by simp [oH]
theorem XB(s:ByteArray)(j:Nat):(s.data.toList.getD j 0).toNat=(oH s).getD j 0:=by
 unfold oH;rw [List.getD_eq_getElem?_getD,List.getD_eq_getElem?_getD,List.getElem?_map];cases s.data.toList[j]?<;>rfl
theorem xA{a b:ByteArray}(h:oH a=oH b):a=b:=by
 have:a.data.toList=b.data.toList:=by
  unfold oH at h;exact (List.map_inj_right (λx y h=>UInt8.toNat_inj.1 h)).1 h
 cases a;cases b;simpa using this
theorem uF(a b:ByteArray):(a.toList == b.toList)=decide (oH a=oH b):=by
 rw [ByteArray.toList_eq,ByteArray.toList_eq]
 by_cases h:oH a=oH b
 ·rw [decide_eq_true h,xA h];simp
 ·rw [decide_eq_false h];rw [beq_eq_false_iff_ne];exact λe=>h (by unfold oH;rw [e])
theorem YK(s:ByteArray)(a b:Nat):oH (s.extract a b)=((oH s).take b).drop a:=by
 unfold oH;rw [ByteArray.data_extract,Array.toList_extract,List.extract_eq_take_drop,← List.map_take,← List.map_drop,List.drop_take]
theorem tN{s:ByteArray}{i:Int}{k:Int→Prop}(hp:Pr (0≤i∧i<s.size))(hk:k (((oH s).getD i.toNat 0:Nat):Int)):StrAt s i k:=by
 obtain ⟨⟨h1,h2⟩⟩:=hp;exact ⟨i.toNat,by omega,by omega,by rw [XB];exact hk⟩
theorem qF(s:ByteArray):(rF s).length=s.size:=by simp [rF]
def zo(l:List Nat):Nat:=l.foldl (λa c=>10*a+(c-48)) 0
theorem TW(l:List Nat):∀x,l.foldl (λa c=>10*a+(c-48)) x=x*10 ^ l.length+zo l:=by
 induction l with
 |nil=>intro x;simp [zo]
 |cons c r ih =>
  intro x;unfold zo;simp only [List.foldl_cons,List.length_cons];rw [ih,ih (10*0+(c-48)),Nat.pow_succ]
  grind
theorem Ua(a b:List Nat):zo (a++b)=zo a*10 ^ b.length+zo b:=by
 unfold zo;rw [List.foldl_append,TW];rfl
theorem OV(a:List Nat)(c:Nat):zo (a++[c])=10*zo a+(c-48):=by
 rw [Ua];simp [zo];omega
end Go.Sw
namespace Go.Sw
open Go Go.RowKit
@[reducible] def AV.str(s:ByteArray):AV:=.c (.v (.string s))
section
variable {s b:ByteArray} {k m:Nat}
end
end Go.Sw
namespace Go.Sw
open Go
theorem Jv{a b:ByteArray}(h:a=b):aB [AV.c (Cell.v (.string a))]=AV.str b:=by subst h;rfl
end Go.Sw
namespace Go.Sw
open Go Go.Lib
def GR(n:Nat):List Nat:=(decDigits n).map λb=>b.toNat
theorem Vk{k:Nat}(h:k<10):(UInt8.ofNat (48+k)).toNat=48+k:=by
 have:k=0∨k=1∨k=2∨k=3∨k=4∨k=5∨k=6∨k=7∨k=8∨k=9:=by omega
 rcases this with rfl|rfl|rfl|rfl|rfl|rfl|rfl|rfl|rfl|rfl<;>rfl
theorem yB{n:Nat}(h:n<10):GR n=[48+n]:=by unfold GR;rw [mg h,List.map_cons,Vk h];rfl
theorem NU{n:Nat}(h:¬n<10):GR n=GR (n / 10)++[48+n % 10]:=by
 unfold GR;rw [zq h,List.map_append,List.map_cons,Vk (Nat.mod_lt _ (by decide))];rfl
theorem ae4(n:Nat):zo (GR n)=n:=by
 induction n using Nat.strongRecOn with
 |_ n ih =>
  by_cases h:n<10
  ·rw [yB h];simp [zo]
  ·rw [NU h,OV,ih (n / 10) (by omega)];omega
theorem ab3(n:Nat):∀c∈GR n,48≤c∧c≤57:=by
 induction n using Nat.strongRecOn with
 |_ n ih =>
  intro c hc
  by_cases h:n<10
  ·rw [yB h] at hc;simp at hc;omega
  ·rw [NU h] at hc;rcases List.mem_append.1 hc with g|g
   ·exact ih (n / 10) (by omega) c g
   ·simp at g;omega
theorem Yg(n:Nat):(GR n).length=nDigits n:=by unfold GR;rw [List.length_map,decDigits_length]
theorem RH{n:Nat}(h:0<n):(GR n).getD 0 0≠48:=by
 obtain ⟨d,r,h1,h2⟩:=Vj n h;unfold GR;rw [h1];show d.toNat≠48;intro e;exact h2 (UInt8.toNat_inj.1 (by rw [e];rfl))
theorem UU(l:List UInt8):oH ⟨l.toArray⟩=l.map λb=>b.toNat:=rfl
theorem xC(n:Int):oH (lD n)=(if n<0 then [45] else [])++GR n.natAbs:=by
 unfold lD;rw [UU,List.map_append];congr 1;split<;>rfl
theorem abz(n:Nat):(GR n).take 1≠[45]:=by
 intro e;have h:45∈GR n:=List.mem_of_mem_take (i:=1) (by rw [e];exact List.mem_singleton.2 rfl);have:=(ab3 n 45 h).1;omega
theorem xR(n:Int):(lD n).size=(if n<0 then 1 else 0)+nDigits n.natAbs:=by
 rw [← kZ,xC,List.length_append,Yg];congr 1;split<;>rfl
theorem XW(a b:ByteArray):oH (a++b)=oH a++oH b:=by
 unfold oH;rw [ByteArray.data_append,Array.toList_append,List.map_append]
theorem Gy:∀(i m:Nat),(lim m).getD i 0=m / 1000000000 ^ i % 1000000000
 |0,m=>by
  by_cases h:m=0
  ·subst h;rw [eH];rfl
  ·rw [kJ h];simp
 |i+1,m=>by
  by_cases h:m=0
  ·subst h;simp [eH]
  ·rw [kJ h,List.getD_cons_succ,Gy i,Nat.div_div_eq_div_mul,← Nat.pow_succ']
theorem Vl:∀(i m:Nat),i<(lim m).length→0<m / 1000000000 ^ i
 |0,m,h=>by
  have:m≠0:=λe=>by subst e;rw [eH] at h;exact absurd h (by decide)
  simp;omega
 |i+1,m,h=>by
  have:m≠0:=λe=>by subst e;rw [eH] at h;exact absurd h (by simp)
  rw [kJ this,List.length_cons] at h;have:=Vl i (m / 1000000000) (by omega)
  rwa [Nat.div_div_eq_div_mul,← Nat.pow_succ'] at this
theorem zB(m:Nat):m<1000000000 ^ (lim m).length:=by
 have:=fP (lim m) (aQ m)
 rwa [aA] at this
theorem abd{i m:Nat}(h:i<(lim m).length):(lim m)[i]?=some (m / 1000000000 ^ i % 1000000000):=by
 have:=Gy i m;rw [List.getD_eq_getElem?_getD,List.getElem?_eq_getElem h] at this;rw [List.getElem?_eq_getElem h];exact congrArg some this
theorem IW{m:Nat}(h:0<(lim m).length):m / 1000000000 ^ ((lim m).length-1) % 1000000000=m / 1000000000 ^ ((lim m).length-1):=by
 apply Nat.mod_eq_of_lt;apply Nat.div_lt_of_lt_mul;have:=zB m
 rwa [← Nat.pow_succ,show ((lim m).length-1).succ=(lim m).length by omega]
theorem JD{m i:Nat}(h:i+1<(lim m).length):
 decDigits (m / 1000000000 ^ i)=decDigits (m / 1000000000 ^ (i+1))++List.replicate (9-nDigits (m / 1000000000 ^ i % 1000000000)) 48++decDigits (m / 1000000000 ^ i % 1000000000):=by
 have h1:=Vl (i+1) m h;have hx:m / 1000000000 ^ i % 1000000000<10 ^ 9:=Nat.mod_lt _ (by decide);have e:m / 1000000000 ^ (i+1)=m / 1000000000 ^ i / 1000000000:=by rw [Nat.div_div_eq_div_mul,Nat.pow_succ]
 rw [List.append_assoc,← zY 9 _ (by decide) hx,← OL 9 _ _ h1 hx,e];congr 1;have:=Nat.div_add_mod (m / 1000000000 ^ i) 1000000000;omega
theorem Jb{m i:Nat}(h:0<(lim m).length):(decDigits (m / 1000000000 ^ i)).length≤9*(lim m).length:=by
 rw [decDigits_length];apply vI (by omega);refine Nat.lt_of_le_of_lt (Nat.div_le_self _ _) ?_;rw [Nat.pow_mul];exact zB m
theorem zX{x:Nat}(h:x<1000000000):1≤nDigits x∧nDigits x≤9:=⟨nDigits_pos x,vI (by decide) h⟩
def bv(l:List UInt8):List Value:=l.map λb => .int .u8 (b.toNat:Int)
theorem VT(l:List UInt8):(bv l).length=l.length:=by unfold bv;simp
theorem yx(a b:List UInt8):bv (a++b)=bv a++bv b:=by unfold bv;rw [List.map_append]
theorem Sm(l:List UInt8):strCells ⟨l.toArray⟩=bv l:=rfl
theorem tC(n:Nat):(sN n).size=nDigits n:=by
 show (decDigits n).toArray.size=_;rw [List.size_toArray,decDigits_length]
end Go.Sw
namespace Go.Sw
open Go Go.Lib Go.RowKit
def xO(d m:Nat):ByteArray:=⟨(oW d m).toArray⟩
def JI(j m:Nat):ByteArray:=⟨(List.replicate j 48++decDigits m).toArray⟩
theorem Qm(d m:Nat):(xO d m).size=d:=by
 show (oW d m).toArray.size=d;rw [List.size_toArray,Bf]
theorem Oq{k:Nat}(h:k<10):Utf8.encode ((48+k:Nat):Int)=⟨#[UInt8.ofNat (48+k)]⟩:=by
 have:k=0∨k=1∨k=2∨k=3∨k=4∨k=5∨k=6∨k=7∨k=8∨k=9:=by omega
 rcases this with rfl|rfl|rfl|rfl|rfl|rfl|rfl|rfl|rfl|rfl<;>decide +kernel
theorem UK{m x k:Nat}(hk:k<9):m / 1000000000 ^ x % 1000000000 / 10 ^ k % 10=m / 10 ^ (9*x+k) % 10:=by
 have e:m / 10 ^ (9*x+k)=m / 1000000000 ^ x / 10 ^ k:=by rw [Nat.div_div_eq_div_mul,Nat.pow_add,Nat.pow_mul]
 rw [e];generalize m / 1000000000 ^ x=a;have h9:(1000000000:Nat)=10 ^ k*10 ^ (9-k):=by rw [← Nat.pow_add,show k+(9-k)=9 by omega]
 rw [h9,Nat.mod_mul_right_div_self];exact Nat.mod_mod_of_dvd _ ⟨10 ^ (8-k),by rw [← Nat.pow_succ',show (8-k).succ=9-k by omega]⟩
theorem QY(d m:Nat):oW (d+1) m=UInt8.ofNat (48+m / 10 ^ d % 10) :: oW d m:=by
 rw [Nat.add_comm d 1,MI d 1 m];rfl
theorem Jz{m x k:Nat}(hk:k<9):IntKind.i32.wrap (IntKind.u32.wrap (48+(((m / 1000000000 ^ x % 1000000000 / 10 ^ k:Nat):Int)).tmod 10))=((48+m / 10 ^ (9*x+k) % 10:Nat):Int):=by
 rw [← UK hk];generalize m / 1000000000 ^ x % 1000000000 / 10 ^ k=q;rw [Int.tmod_eq_emod_of_nonneg (Int.natCast_nonneg q),IntKind.wrap_u32,IntKind.wrap_i32];omega
theorem Yq{m x k:Nat}(hk:k<9):
 some (AV.c (Cell.v (.string (Utf8.encode (IntKind.i32.wrap (IntKind.u32.wrap (48+(((m / 1000000000 ^ x % 1000000000 / 10 ^ k:Nat):Int)).tmod 10)))++xO (9*x+k) m))))=some (AV.str (xO (9*x+(k+1)) m)):=by
 have:Utf8.encode (IntKind.i32.wrap (IntKind.u32.wrap (48+(((m / 1000000000 ^ x % 1000000000 / 10 ^ k:Nat):Int)).tmod 10)))++xO (9*x+k) m=xO (9*x+(k+1)) m:=by
  rw [Jz hk,Oq (Nat.mod_lt _ (by decide))];unfold xO;rw [← Nat.add_assoc,QY,ByteArray.ext_iff,ByteArray.data_append];simp
 rw [this]
theorem aco{m x k:Nat}(hk:k<9):(Utf8.encode (IntKind.i32.wrap (IntKind.u32.wrap (48+(((m / 1000000000 ^ x % 1000000000 / 10 ^ k:Nat):Int)).tmod 10)))).size=1:=by
 rw [Jz hk,Oq (Nat.mod_lt _ (by decide))];rfl
theorem X3{m x k:Nat}:IntKind.u32.wrap (((m / 1000000000 ^ x % 1000000000 / 10 ^ k:Nat):Int).tdiv 10)=((m / 1000000000 ^ x % 1000000000 / 10 ^ (k+1):Nat):Int):=by
 have h1:m / 1000000000 ^ x % 1000000000 / 10 ^ k≤m / 1000000000 ^ x % 1000000000:=Nat.div_le_self _ _;have h2:=Nat.mod_lt (m / 1000000000 ^ x) (show 0<1000000000 by decide);rw [Nat.pow_succ,← Nat.div_div_eq_div_mul];generalize m / 1000000000 ^ x % 1000000000 / 10 ^ k=q at h1 ⊢;rw [Int.tdiv_eq_ediv_of_nonneg (Int.natCast_nonneg q),IntKind.wrap_u32];omega
theorem XQ(m x:Nat):some (AV.c (Cell.v (u32 ((lim m).getD x 0))))=some (AV.int .u32 ((m / 1000000000 ^ x % 1000000000 / 10 ^ 0:Nat):Int)):=by
 rw [Gy,Nat.pow_zero,Nat.div_one];rfl
theorem YE{m x k:Nat}(h1:k≤9)(h2:¬(k:Int)<9):some (AV.str (xO (9*x+k) m))=some (AV.str (xO (9*(x+1)) m)):=by rw [show 9*x+k=9*(x+1) by omega]
theorem XU{m:Nat}(h:0<(lim m).length):xO (9*(lim m).length) m=JI (9*(lim m).length-nDigits m) m:=by
 unfold xO JI;rw [zY _ _ (by omega) (by rw [Nat.pow_mul];exact zB m)]
theorem YS{m x:Nat}(h:0<(lim m).length)(h1:x≤(lim m).length)(h2:¬(x:Int)<((lim m).length:Nat)):some (AV.str (xO (9*x) m))=some (AV.str (JI (9*(lim m).length-nDigits m) m)):=by rw [show x=(lim m).length by omega,XU h]
theorem Jy(j m:Nat):(JI j m).size=j+nDigits m:=by
 show (List.replicate j 48++decDigits m).toArray.size=_;rw [List.size_toArray,List.length_append,List.length_replicate,decDigits_length]
theorem yI(j m:Nat):oH (JI j m)=List.replicate j 48++GR m:=by
 unfold JI;rw [UU,List.map_append,List.map_replicate];rfl
theorem Zv{j m:Nat}(hm:0<m)(h:¬(((oH (JI j m)).getD 0 0:Nat):Int)=48):j=0:=by
 cases j with
 |zero=>rfl
 |succ j=>rw [yI,List.replicate_succ] at h;exact absurd rfl h
theorem afW{j m:Nat}(hm:0<m)(h:(((oH (JI j m)).getD 0 0:Nat):Int)=48):0<j:=by
 cases j with
 |zero =>
  rw [yI,List.replicate_zero,List.nil_append] at h;exact absurd (by omega) (RH hm)
 |succ j=>omega
theorem abr{j m:Nat}(h:0<j):(JI j m).extract 1 (JI j m).size=JI (j-1) m:=by
 apply xA;rw [YK,show (JI j m).size=(oH (JI j m)).length from (kZ _).symm,List.take_length,yI,yI];cases j with
 |zero=>exact absurd h (by decide)
 |succ j=>rfl
theorem SE{n:Int}(h:n<0):(⟨#[45]⟩:ByteArray)++JI 0 n.natAbs=lD n:=by
 apply xA;rw [XW,yI,xC,if_pos h];rfl
theorem SI{n:Int}(h:¬n<0):JI 0 n.natAbs=lD n:=by
 apply xA;rw [yI,xC,if_neg h];rfl
theorem Z7:(⟨#[48]⟩:ByteArray)=lD 0:=by
 apply xA;rw [xC,show (0:Int).natAbs=0 from rfl,yB (by decide)];rfl
theorem TT{n:Int}{k:Nat}(h:sz n≤k)(hk:0<k):nDigits n.natAbs≤9*k:=by
 apply vI (by omega);refine Nat.lt_of_lt_of_le (zB n.natAbs) ?_;rw [Nat.pow_mul];exact Nat.pow_le_pow_right (by decide) h
theorem WY{n:Int}{k:Nat}(h:sz n≤k)(hk:0<k):(lD n).size≤9*k+1:=by
 have:=TT h hk;rw [xR];split<;>omega
end Go.Sw
