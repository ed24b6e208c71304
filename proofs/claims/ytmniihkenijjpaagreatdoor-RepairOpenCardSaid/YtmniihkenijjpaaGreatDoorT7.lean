/-
  Rules of the abstract run, plain laws, and what functions answer, for the law RepairOpen.
  Conditions: none.
-/
import Derived.Test.YtmniihkenijjpaaGreatDoorT6
import Derived.Test.YtmniihkenijjpaaGreatDoorChecked
set_option linter.all false
namespace Go.Sw
open Go
def pad:Nat→Nat→List Nat
 |0,_=>[]
 |n+1,v=>v%1000000000::pad n (v/1000000000)
theorem QK:∀(n v:Nat),(pad n v).length=n
 |0,_=>rfl
 |n+1,v=>by simp[pad,QK]
theorem ni:∀(n v:Nat),Lb (pad n v)
 |0,_=>Lb.nil
 |n+1,v=>Lb.cons (sK _ (by decide)) (ni n _)
theorem lY:∀(n v:Nat),v<1000000000^n→val (pad n v)=v
 |0,v,h=>by simp at h;subst h;rfl
 |n+1,v,h=>by
  have:v/1000000000<1000000000^n:=Nat.div_lt_of_lt_mul (by rw[Ar,EI]at h;exact h);simp only[pad,val,lY n _ this];omega
theorem BZ:∀(l:List Nat),Lb l→l=pad l.length (val l)
 |[],_=>rfl
 |x::r,h=>by
  have h1:=h.head;have h2:=BZ r h.tail;simp only[iH,pad,val];rw[show(x+1000000000*val r)%1000000000=x by omega,show(x+1000000000*val r)/1000000000=val r by omega,←h2]
theorem PS{l:List Nat}{n v:Nat}(h:Lb l)(hl:l.length=n)(hv:val l=v):lmc l=lmc (pad n v):=by
 subst hl hv;rw[←BZ l h]
theorem cE{c c':Cell}(h:c=c'):packA [AV.c c]=AV.c c':=by rw[h];rfl
theorem lE{l l':List Nat}(h:l=l'):packA [AV.c (lmc l)]=AV.c (lmc l'):=by rw[h];rfl
theorem ahD{l:List Nat}{k:Nat}{i:Int}(hk:k≤l.length)(h0:¬k=0)(hi:i.toNat=k-1):some (AV.c (.sl 1 ((((l.take k).map λx=>[Cell.v (u32 x)]).take i.toNat).drop (Int.toNat 0))))=some (AV.c (lmc (l.take (k-1)))):=by
 rw[hi];show some (AV.c (.sl 1 (List.drop 0 _)))=_;rw[Zz,←List.map_take,List.take_take,Nat.min_eq_left (by omega)]
theorem EH{x:Nat}:((x:Int)-1).toNat=x-1:=by omega
theorem Zw{x:Nat}:((x:Int)+1).toNat=x+1:=by omega
theorem EM{x n:Nat}(h:x≤n):min x n=x:=Nat.min_eq_left h
theorem yF{l:List Nat}{x:Nat}(hx:x≤l.length∧∀j,x≤j→l.getD j 0=0)(h:x=0∨(l.take x).getD (x-1) 0≠0):packA [AV.c (lmc (l.take x))]=AV.c (lmc (ah l)) :=
 lE (oz l x hx.1 hx.2 (Um hx.1 h))
theorem zE{neg b:Bool}{l:List Nat}(hb:Lb l)(h:b=(neg&&decide (0<val l))):packA [AV.agg [Cell.v (.bool b),lmc (ah l)]]=Z (eH neg (val l)):=by
 subst h;show AV.agg [_,_]=AV.agg [zs _,zl _];unfold zs zl;rw[yh,mV,kW l hb]
theorem Ou{l:List Nat}(hb:Lb l):0<(ah l).length↔0<val l:=by
 rw[←kW l hb];have:=dM (n:=val l);omega
theorem QB{b:Bool}{l:List Nat}(hb:Lb l)(h:b=decide ((((ah l).length:Nat):Int)>0)):packA [AV.agg [Cell.v (.bool b),lmc (ah l)]]=Z (eH true (val l)) :=
 zE hb (by have:=Ou hb;subst h;rw[KP,decide_eq_decide];omega)
theorem VY{l:List Nat}(hb:Lb l):packA [AV.agg [Cell.v (.bool false),lmc (ah l)]]=Z (eH false (val l)):=zE hb rfl
theorem aht{l:List Nat}{x:Nat}{i j:Int}(hx:x≤l.length∧∀j,x≤j→l.getD j 0=0)(h:x=0∨l.getD (x-1) 0≠0)(hi:i.toNat=0)(hj:j.toNat=x):Cell.sl 1 (List.drop i.toNat (List.take j.toNat (l.map λx=>[Cell.v (u32 x)])))=lmc (ah l):=by
 rw[hi,hj,Zz,←List.map_take,oz l x hx.1 hx.2 h]
theorem sg1{b:Bool}{l:List Nat}{x:Nat}{i j:Int}(hb:Lb l)(hx:x≤l.length∧∀j,x≤j→l.getD j 0=0)(h:x=0∨l.getD (x-1) 0≠0)(hi:i.toNat=0)(hj:j.toNat=x)(he:b=decide (((x:Nat):Int)>0)):
 packA [AV.agg [Cell.v (.bool b),Cell.sl 1 (List.drop i.toNat (List.take j.toNat (l.map λx=>[Cell.v (u32 x)])))]]=Z (eH true (val l)):=by
 rw[aht hx h hi hj];have hl:=congrArg List.length (oz l x hx.1 hx.2 h);rw[vY,Nat.min_eq_left hx.1]at hl;exact QB hb (by rw[he,hl])
theorem Nk{l:List Nat}{x:Nat}{i j:Int}(hb:Lb l)(hx:x≤l.length∧∀j,x≤j→l.getD j 0=0)(h:x=0∨l.getD (x-1) 0≠0)(hi:i.toNat=0)(hj:j.toNat=x):
 packA [AV.agg [Cell.v (.bool false),Cell.sl 1 (List.drop i.toNat (List.take j.toNat (l.map λx=>[Cell.v (u32 x)])))]]=Z (eH false (val l)):=by
 rw[aht hx h hi hj];exact VY hb
theorem af5{n:Nat}(h0:0<n)(h:n≤9223372036854775807):some (AV.int .i64 (IntKind.i64.wrap ((n:Int)-1)))=some (AV.int .i64 ((n-1:Nat):Int)):=by
 rw[bW (by omega) (by omega)];congr 2;omega
theorem aeb{n:Nat}(h:n≤9223372036854775807):some (AV.int .i64 (IntKind.i64.wrap ((n:Int)-1)))=some (AV.int .i64 ((n:Int)-1)):=by
 rw[bW (by omega) (by omega)]
theorem Dz{n:Nat}(h0:0<n)(h:n≤9223372036854775807):some (AV.int .i64 (IntKind.i64.wrap ((n:Int)-1-1)))=some (AV.int .i64 (((n-1:Nat):Int)-1)):=by
 rw[bW (by omega) (by omega)];congr 2;omega
section
variable {a b:List Nat} {x:Nat}
theorem Rj(ha:CanL a)(hb:CanL b)(h:a.length<b.length):packA [AV.c (Cell.v (.int .i64 (-1)))]=AV.int .i64 (fD (val a) (val b)):=by rw[Rk (iT ha hb h)];rfl
theorem QL(ha:CanL a)(hb:CanL b)(h:b.length<a.length):packA [AV.c (Cell.v (.int .i64 1))]=AV.int .i64 (fD (val a) (val b)):=by rw[Qq (iT hb ha h)];rfl
theorem acd(ha:CanL a)(hb:CanL b)(hx:x≤a.length∧∀j,x≤j→a.getD j 0=b.getD j 0)(hl:a.length=b.length)(h0:0<x)(h:a.getD (x-1) 0<b.getD (x-1) 0):packA [AV.c (Cell.v (.int .i64 (-1)))]=AV.int .i64 (fD (val a) (val b)):=by
 rw[Rk (nT (x-1) ha.1 hb.1 hl (by omega) (λj hj=>hx.2 j (by omega)) h)];rfl
theorem acC(ha:CanL a)(hb:CanL b)(hx:x≤a.length∧∀j,x≤j→a.getD j 0=b.getD j 0)(hl:a.length=b.length)(h0:0<x)(h:b.getD (x-1) 0<a.getD (x-1) 0):packA [AV.c (Cell.v (.int .i64 1))]=AV.int .i64 (fD (val a) (val b)):=by
 rw[Qq (nT (x-1) hb.1 ha.1 hl.symm (by omega) (λj hj=>(hx.2 j (by omega)).symm) h)];rfl
theorem acf(hx:x≤a.length∧∀j,x≤j→a.getD j 0=b.getD j 0)(hl:a.length=b.length)(h0:x=0):packA [AV.c (Cell.v (.int .i64 0))]=AV.int .i64 (fD (val a) (val b)):=by
 rw[abu (congrArg val (JU hl λj=>hx.2 j (by omega)))];rfl
theorem fz2(h:a.length=b.length):a.length≤a.length∧∀j,a.length≤j→a.getD j 0=b.getD j 0:=⟨kU _,λj hj=>by rw[getD_none hj,getD_none (by omega)]⟩
end
theorem lM{v m:Int}(h:0≤v):v.tmod m=v%m:=Int.tmod_eq_emod_of_nonneg h
theorem lK{v m:Int}(h:0≤v):v.tdiv m=v/m:=Int.tdiv_eq_ediv_of_nonneg h
theorem yZ{o:List Nat}{k d i T:Nat}{v:Int}(hi:i=k)(hv:v=(d:Int)):some (Bk.grow T 1 ((o.map λx=>[Cell.v (u32 x)]).set i [Cell.v (.int .u32 v)]))=some (Bk.grow T 1 ((o.set k d).map λx=>[Cell.v (u32 x)])):=by
 subst hi hv;rw[List.map_set];rfl
theorem ug(n T:Nat):some (Bk.grow T 1 (List.replicate n [Cell.v (.int .u32 0)]))=some (Bk.grow T 1 ((List.replicate n 0).map λx=>[Cell.v (u32 x)])):=by
 rw[List.map_replicate];rfl
theorem iS{k:IntKind}{a b:Int}(h:a=b):some (AV.int k a)=some (AV.int k b):=by rw[h]
theorem ajd(l:List Nat)(i d:Nat):(l.map λx=>[Cell.v (u32 x)]).set i [Cell.v (.int .u32 ((d:Nat):Int))]=(l.set i d).map λx=>[Cell.v (u32 x)]:=by rw[List.map_set];rfl
theorem V7{o x y:List Nat}{k cr v:Nat}(ho:o.length=x.length+1)(hk:k=x.length)(hy:y.length≤x.length)(hb:Lb o)(hc:cr≤1)(hv:val (o.take k)+1000000000^k*cr=val (x.take k)+val (y.take k))(e:v=val x+val y):
 packA [AV.c (lmc (ah (o.set x.length cr)))]=AV.c (lmc (lim v)):=lE (by
 have h1:=XO ho hk hy hv
 rw[e,←h1,kW _ (eU hb (by omega))])
theorem MW{o:List Nat}{d T:Nat}{v:Int}(hv:v=(d:Int)):some (Bk.grow T 1 ((o.map λx=>[Cell.v (u32 x)])++[[Cell.v (.int .u32 v)]]))=some (Bk.grow T 1 ((o++[d]).map λx=>[Cell.v (u32 x)])):=by
 subst hv;rw[fO];rfl
theorem sZ{b n m:Nat}(h:n=m):some (AV.gs b n)=some (AV.gs b m):=by rw[h]
theorem ahj{o:List Nat}{d:Nat}:Cell.sl 1 ((o.map λx=>[Cell.v (u32 x)])++[[Cell.v (.int .u32 ((d:Nat):Int))]])=lmc (o++[d]):=by
 unfold lmc;rw[fO];rfl
theorem adz{l:List Nat}{n v:Nat}(h:Lb l)(hl:l.length=n)(hv:val l=v):packA [AV.c (lmc l)]=AV.c (lmc (pad n v)):=cE (PS h hl hv)
theorem ahh{l:List Nat}{d n v:Nat}(h:Lb l)(hd:d<1000000000)(hl:l.length+1=n)(hv:val l+1000000000^l.length*d=v):packA [AV.c (.sl 1 ((l.map λx=>[Cell.v (u32 x)])++[[Cell.v (.int .u32 ((d:Nat):Int))]]))]=AV.c (lmc (pad n v)):=by
 rw[ahj];exact adz (rV h hd) (by simpa using hl) (by rw[Wy rfl];exact hv)
theorem FB{o x y:List Nat}{k br:Nat}(hbo:Lb o)(hx:Lb x)(ho:o.length=x.length)(hk:k=x.length)(hy:y.length≤x.length)(hle:val y≤val x)(hv:val (o.take k)+val (y.take k)=val (x.take k)+1000000000^k*br):val o=val x-val y:=by
 subst hk;have hlt:=gG o hbo;have hx0:=gG x hx;rw[bP (l:=o) (by omega),bP (l:=y) (by omega),bP (l:=x) (by omega)]at hv;rw[ho]at hlt;exact Uw hx0 hv hle hlt
theorem Un{o x y:List Nat}{k br:Nat}(hbo:Lb o)(hx:Lb x)(ho:o.length=x.length)(hk:k=x.length)(hy:y.length≤x.length)(hle:val y≤val x)(hv:val (o.take k)+val (y.take k)=val (x.take k)+1000000000^k*br):packA [AV.c (lmc (ah o))]=AV.c (lmc (lim (val x-val y))) :=
 lE (by rw[←FB hbo hx ho hk hy hle hv,kW _ hbo])
theorem Gq{o a b:List Nat}{i:Nat}(ho:o.length=a.length+b.length)(hi:i=a.length)(hv:val (o.take (i+b.length))=val (a.take i)*val b):val o=val a*val b:=by
 subst hi;rw[bP (l:=o) (by omega),bP (l:=a) (by omega)]at hv;exact hv
theorem QZ(la lb:Nat)(a b:List Nat):val ((List.replicate (la+lb) 0).take (0+lb))=val (a.take 0)*val b:=by
 rw[List.take_replicate,qO];simp[val]
theorem BQ{i k:Nat}:((i:Int)+(k:Int)).toNat=i+k:=by omega
theorem ab1{a o:List Nat}{b r:Nat}(h0:0<b)(hr:r<b)(ho:o.length=a.length)(hb:Lb o)(hv:val (a.drop 0)=b*val (o.drop 0)+r):
 packA [AV.c (lmc o),AV.c (.sl 1 [[Cell.v (.int .u32 ((r:Nat):Int))]])]=AV.tup [AV.c (lmc (pad a.length (val a/b))),AV.c (lmc [val a%b])]:=by
 rw[Zz,Zz]at hv;have h1:val a/b=val o:=by rw[hv,EI,Nat.add_comm,Nat.add_mul_div_right _ _ h0,Nat.div_eq_of_lt hr,xu]
 have h2:val a%b=r:=by rw[hv,Nat.mul_add_mod,Qw hr]
 rw[h1,h2,←PS hb ho rfl];rfl
theorem SQ{n:Nat}(h:n<1000000000000000000000000000){x y z:Int}(hx:x=((n%1000000000:Nat):Int))(hy:y=((n/1000000000%1000000000:Nat):Int))(hz:z=((n/1000000000/1000000000:Nat):Int)):
 packA [AV.c (.sl 1 [[Cell.v (.int .u32 x)],[Cell.v (.int .u32 y)],[Cell.v (.int .u32 z)]])]=AV.c (lmc (pad 3 n)):=by
 subst hx hy hz;refine cE ?_;simp only[pad];rw[show n/1000000000/1000000000%1000000000=n/1000000000/1000000000 by omega];rfl
theorem Zd{n:Nat}(h:n<18446744073709551616):(lim n).length≤3:=jo (by omega)
theorem O5{n m:Nat}{o:List Nat}(h:m≤n∧lim n=o++lim m)(h0:0<m):m/1000000000≤n∧lim n=(o++[m%1000000000])++lim (m/1000000000):=by
 refine⟨dh (QV _ _) h.1, ?_⟩;rw[h.2,lq (by omega:m≠0)];simp
theorem Td{n m:Nat}{o:List Nat}(h:m≤n∧lim n=o++lim m)(h0:m=0):packA [AV.c (lmc o)]=AV.c (lmc (lim n)):=lE (by rw[h.2,h0,fA,gy])
theorem Ue{n m:Nat}{o:List Nat}(hn:n<18446744073709551616)(h:m≤n∧lim n=o++lim m)(h0:0<m):o.length+1≤3:=by
 have h1:=congrArg List.length h.2;have h2:=Zd hn;rw[lq (by omega:m≠0)]at h1;simp at h1;omega
theorem afm{a:Int}(h:(lim a.natAbs).length=0):packA [AV.c (Cell.v (.int .u64 0)),AV.c (Cell.v (.bool true))]=AV.tup [.int .u64 ((if sz a≤2 then a.natAbs else 0:Nat):Int),.bool (decide (sz a≤2))]:=by
 have h1:sz a≤2:=by unfold sz;omega
 rw[if_pos h1,decide_eq_true h1,dM.1 h];rfl
theorem adu{a:Int}{x:Int}(h:(lim a.natAbs).length=1)(hx:x=(((lim a.natAbs).getD 0 0:Nat):Int)):packA [AV.c (Cell.v (.int .u64 x)),AV.c (Cell.v (.bool true))]=AV.tup [.int .u64 ((if sz a≤2 then a.natAbs else 0:Nat):Int),.bool (decide (sz a≤2))]:=by
 have h1:sz a≤2:=by unfold sz;omega
 rw[if_pos h1,decide_eq_true h1,hx,abJ h];rfl
theorem adU{a:Int}{x:Int}(h:(lim a.natAbs).length=2)(hx:x=(((lim a.natAbs).getD 1 0*1000000000+(lim a.natAbs).getD 0 0:Nat):Int)):packA [AV.c (Cell.v (.int .u64 x)),AV.c (Cell.v (.bool true))]=AV.tup [.int .u64 ((if sz a≤2 then a.natAbs else 0:Nat):Int),.bool (decide (sz a≤2))]:=by
 have h1:sz a≤2:=by unfold sz;omega
 rw[if_pos h1,decide_eq_true h1,hx,aa9 h];rfl
theorem adZ{a:Int}(h:2<(lim a.natAbs).length):packA [AV.c (Cell.v (.int .u64 0)),AV.c (Cell.v (.bool false))]=AV.tup [.int .u64 ((if sz a≤2 then a.natAbs else 0:Nat):Int),.bool (decide (sz a≤2))]:=by
 have h1:¬sz a≤2:=by unfold sz;omega
 rw[if_neg h1,decide_eq_false h1];rfl
theorem Vb:Int.toNat 0=0:=rfl
theorem Ve:Int.toNat 1=1:=rfl
theorem U4(r g:Nat):((r:Int)*1000000000+(g:Int))=((r*1000000000+g:Nat):Int):=by omega
theorem U7(t b:Nat):(t:Int)/(b:Int)=((t/b:Nat):Int):=rfl
theorem U8(t b:Nat):(t:Int)%(b:Int)=((t%b:Nat):Int):=rfl
theorem YI{a:List Nat}{b:Nat}(ha:Lb a)(h0:0<b)(h1:b<1000000000):Lb (pad a.length (val a/b))∧Lb [val a%b]∧val a=b*val (pad a.length (val a/b))+val [val a%b]∧val [val a%b]<b∧(pad a.length (val a/b)).length=a.length∧[val a%b].length=1:=by
 have hm:=sK (val a) h0;have hv:val [val a%b]=val a%b:=by simp[val]
 refine⟨ni _ _,Lb.cons (by omega) Lb.nil, ?_,by rw[hv];exact hm,QK _ _,rfl⟩;rw[lY _ _ (dA (QV _ _) (gG a ha)),hv,Nat.div_add_mod]
def YT(b:List Nat):Nat:=1000000000/((ah b).getD ((ah b).length-1) 0+1)
def Zx(a b:List Nat):Nat:=if(ah b).length=1 then(ah a).length else if val a<val b then 0 else(ah a).length+2-(ah b).length
def Zb(a b:List Nat):Nat:=if(ah b).length=1 then 1 else if val a<val b then(ah a).length else(lim (val a%val b*YT b)).length
theorem ad4{a b U:List Nat}{n q rs:Nat}(hb:Lb U)(hv:val (U.take n)=val U)(h1:val a*YT b=val b*YT b*q+val U)(h2:val a=val b*q+rs)(h3:rs<val b):(ah (U.take n)).length=(lim (val a%val b*YT b)).length:=by
 have e1:val a%val b=rs:=by rw[h2,Nat.mul_add_mod,Qw h3]
 have e2:val U=rs*YT b:=by
  rw[h2,Nat.add_mul]at h1;have:val b*q*YT b=val b*YT b*q:=by grind
  omega
 rw[e1,←e2,←hv,kW _ (hb.take n)]
theorem aad{b:List Nat}(hb:Lb b):0<YT b:=by
 have:=(oI hb).getD ((ah b).length-1);unfold YT;exact Nat.div_pos (by omega) (by omega)
theorem adJ{a b:List Nat}(ha:Lb a)(hb:Lb b)(h0:0<val b):val (pad (Zx a b) (val a/val b))=val a/val b:=by
 refine lY _ _ ?_;have hva:=gG _ (oI ha);rw[fB]at hva;unfold Zx;split
 ·exact dA (QV _ _) hva
 ·split
  ·rw[Nat.div_eq_of_lt (by assumption)];decide
  ·rename_i h1 h2;have hne:ah b≠[]:=λe=>by have:=fB b;rw[e]at this;simp[val]at this;omega
   have hp:=Hg (fH hb) hne;rw[fB]at hp;have hl:0<(ah b).length:=List.length_pos_iff.2 hne
   have hle:(ah b).length≤(ah a).length:=by
    rcases EW (ah a).length (ah b).length with h|h
    ·have:=iT (fH ha) (fH hb) h;rw[fB,fB]at this;omega
    ·exact h
   rw[Nat.div_lt_iff_lt_mul h0];refine Jz hva (dh ?_ (Ii _ hp));rw[←Nat.pow_add];exact Jw (by decide) (by omega)
theorem adR{a b:List Nat}(ha:Lb a)(hb:Lb b)(h0:0<val b):val (pad (Zb a b) (val a%val b))=val a%val b:=by
 refine lY _ _ ?_;have hm:=sK (val a) h0;have hvb:=gG _ (oI hb);have hva:=gG _ (oI ha);rw[fB]at hva hvb;unfold Zb;split
 ·rename_i h;rw[h]at hvb;omega
 ·split
  ·exact dA (Nat.mod_le _ _) hva
  ·have:=gG _ (aX (val a%val b*YT b));rw[aF]at this;exact dA (Nat.le_mul_of_pos_right _ (aad hb)) this
end Go.Sw
namespace Go.Proofs.YtmniihkenijjpaaGreatDoor
open Go Go.RowKit Go.Sw
set_option maxRecDepth 100000
set_option maxHeartbeats 8000000
instance ai1(l:List Nat):DenI Tryz.prog 230 [.c (lmc l)] (True) (.c (lmc (ah l))):=⟨λhp=>by
 refine den_len (by kernel_rfl) (λhl=>?_);simp only[lenA,lenC,cellsOf,bK,and_true,true_and]at hl
 all_goals refine amV Tryz.func230 rfl ?_
 all_goals first
  |((conv=>whnf);refine Sw.Loop.inv (α:=Nat) (λx=>[(0,.c (lmc (l.take x)))]) (λx=>[]) (λx=>x≤l.length∧∀j,x≤j→l.getD j 0=0) (λx=>x) l.length ?_ ?_ ?_ (λx hx=>?_))
 all_goals(repeat'((try(conv=>whnf));first
  |(with_reducible first|refine onB_t ?_|refine onB_f ?_|refine onB_d (λ_=>?_) (λ_=>?_))|refine slp_i ?_ ?_|(with_reducible refine elem_u ?_ ?_)|refine Ends.mk ?_))
 all_goals(try refine Pr.mk ?_)
 all_goals first|(show SubE _ _;repeat'(first|exact trivial|refine And.intro ?_ ?_))|(show SubB _ _;repeat'(first|exact trivial|refine And.intro ?_ ?_))|skip
 all_goals(try simp(disch:=omega) only[bK,vY,fU,BI,bW,dQ,wu64,EM,EH,Zw,lM,lK]at *)
 all_goals first
  |(rw[ER];rfl)|exact⟨kU _,λj hj=>getD_none hj⟩|exact yF hx (.inl (by omega))|exact yF hx (.inr (by omega))|((conv=>whnf);exact⟨x-1,⟨⟨ahD hx.1 (by omega) (by simp only[Ad];omega),trivial⟩,⟨⟩,⟨by omega,zI hx.2 (take_zero (by omega) (by omega))⟩,by show x-1<x;omega⟩⟩)|((repeat' apply And.intro)<;>first|omega|(simp;done)|(simp;omega))⟩
instance ah8(l:List Nat):DenI Tryz.prog 142 [.c (lmc l)] (True) (.c (lmc (ah l))):=⟨λhp=>by
 refine den_len (by kernel_rfl) (λhl=>?_);simp only[lenA,lenC,cellsOf,bK,and_true,true_and]at hl
 all_goals refine amV Tryz.func142 rfl ?_
 all_goals first
  |((conv=>whnf);refine Sw.Loop.inv (α:=Nat) (λx=>[(0,.c (lmc (l.take x)))]) (λx=>[]) (λx=>x≤l.length∧∀j,x≤j→l.getD j 0=0) (λx=>x) l.length ?_ ?_ ?_ (λx hx=>?_))
 all_goals(repeat'((try(conv=>whnf));first
  |(with_reducible first|refine onB_t ?_|refine onB_f ?_|refine onB_d (λ_=>?_) (λ_=>?_))|refine slp_i ?_ ?_|(with_reducible refine elem_u ?_ ?_)|refine Ends.mk ?_))
 all_goals(try refine Pr.mk ?_)
 all_goals first|(show SubE _ _;repeat'(first|exact trivial|refine And.intro ?_ ?_))|(show SubB _ _;repeat'(first|exact trivial|refine And.intro ?_ ?_))|skip
 all_goals(try simp(disch:=omega) only[bK,vY,fU,BI,bW,dQ,wu64,EM,EH,Zw,lM,lK]at *)
 all_goals first
  |(rw[ER];rfl)|exact⟨kU _,λj hj=>getD_none hj⟩|exact yF hx (.inl (by omega))|exact yF hx (.inr (by omega))|((conv=>whnf);exact⟨x-1,⟨⟨ahD hx.1 (by omega) (by simp only[Ad];omega),trivial⟩,⟨⟩,⟨by omega,zI hx.2 (take_zero (by omega) (by omega))⟩,by show x-1<x;omega⟩⟩)|((repeat' apply And.intro)<;>first|omega|(simp;done)|(simp;omega))⟩
instance agr(neg:Bool)(l:List Nat):DenI Tryz.prog 160 [.bool neg,.c (lmc l)] (Lb l) (Z (eH neg (val l))):=⟨λhp=>by
 refine den_len (by kernel_rfl) (λhl=>?_);simp only[lenA,lenC,cellsOf,bK,and_true,true_and]at hl
 all_goals refine amV Tryz.func160 rfl ?_
 all_goals first
  |((conv=>whnf);refine Sw.Loop.inv (α:=Nat) (λx=>[(0,.bool neg),(1,.c (lmc l)),(4,.ptr 4 0),(5,.int .i64 x)]) (λx=>[(4,.var [.v (.bool false),.sl 1 []])]) (λx=>x≤l.length∧∀j,x≤j→l.getD j 0=0) (λx=>x) l.length ?_ ?_ ?_ (λx hx=>?_))
 all_goals(repeat'((try(conv=>whnf));first
  |(with_reducible first|refine onB_t ?_|refine onB_f ?_|refine onB_d (λ_=>?_) (λ_=>?_))|refine OnB.mk (λ_=>?_) (λ_=>?_)|refine slp_i ?_ ?_|(with_reducible refine elem_u ?_ ?_)|refine Ends.mk ?_))
 all_goals(try refine Pr.mk ?_)
 all_goals first|(show SubE _ _;repeat'(first|exact trivial|refine And.intro ?_ ?_))|(show SubB _ _;repeat'(first|exact trivial|refine And.intro ?_ ?_))|skip
 all_goals(try rfl)
 all_goals(try simp(disch:=omega) only[bK,vY,fU,BI,bW,dQ,wu64,EM,EH,Zw,lM,lK]at *)
 all_goals first
  |(subst neg;exact sg1 hp hx (.inl (by omega)) rfl (by simp only[Ad];omega) rfl)|(subst neg;exact Nk hp hx (.inl (by omega)) rfl (by simp only[Ad];omega))|(subst neg;exact sg1 hp hx (.inr (by omega)) rfl (by simp only[Ad];omega) rfl)|(subst neg;exact Nk hp hx (.inr (by omega)) rfl (by simp only[Ad];omega))|exact⟨kU _,λj hj=>getD_none hj⟩|rfl|((conv=>whnf);exact⟨x-1,⟨⟨rfl,rfl,rfl,af5 (by omega) (by omega),trivial⟩,⟨rfl,trivial⟩,⟨by omega,zI hx.2 (by omega)⟩,by show x-1<x;omega⟩⟩)|((repeat' apply And.intro)<;>first|omega|(simp;done)|(simp;omega))⟩
instance afs(neg:Bool)(l:List Nat):DenI Tryz.prog 107 [.bool neg,.c (lmc l)] (Lb l) (Z (eH neg (val l))):=⟨λhp=>by
 refine den_len (by kernel_rfl) (λhl=>?_);simp only[lenA,lenC,cellsOf,bK,and_true,true_and]at hl
 all_goals refine amV Tryz.func107 rfl ?_
 all_goals(repeat'((try(conv=>whnf));first
  |refine call_0 ?_|(with_reducible first|refine onB_t ?_|refine onB_f ?_)|refine OnB.mk (λ_=>?_) (λ_=>?_)|refine Ends.mk ?_))
 all_goals first
  |(subst neg;exact QB hp (by rw[bK]))|(subst neg;exact VY hp)⟩
instance afr(a b:List Nat):DenI Tryz.prog 198 [.c (lmc a),.c (lmc b)] (Lb a∧Lb b) (.int .i64 (fD (val a) (val b))):=⟨λhp=>by
 refine den_len (by kernel_rfl) (λhl=>?_);simp only[lenA,lenC,cellsOf,bK,and_true,true_and]at hl;have ha:=fQ a;have hb:=fQ b
 all_goals refine amV Tryz.func198 rfl ?_
 all_goals(repeat'((try(conv=>whnf));first
  |refine call_0 ?_|(with_reducible first|refine onB_d (λ_=>?_) (λ_=>?_)|refine onB_n (λ_=>?_) (λ_=>?_))|refine Ends.mk ?_))
 all_goals first
  |((conv=>whnf);refine Sw.Loop.inv (α:=Nat) (λx=>[(0,.c (lmc (ah a))),(1,.c (lmc (ah b))),(5,.int .i64 ((x:Int)-1))]) (λx=>[]) (λx=>x≤(ah a).length∧∀j,x≤j→(ah a).getD j 0=(ah b).getD j 0) (λx=>x) ((ah a).length) ?_ ?_ ?_ (λx hx=>?_))|skip
 all_goals(repeat'((try(conv=>whnf));first
  |(with_reducible refine onB_d (λ_=>?_) (λ_=>?_))|refine Drw.mk (by kernel_rfl) ?_|(with_reducible refine elem_u ?_ ?_)|refine Ends.mk ?_))
 all_goals(try refine Pr.mk ?_)
 all_goals first|(show SubE _ _;repeat'(first|exact trivial|refine And.intro ?_ ?_))|(show SubB _ _;repeat'(first|exact trivial|refine And.intro ?_ ?_))|skip
 all_goals(try rfl)
 all_goals(try simp(disch:=omega) only[bK,vY,fU,BI,bW,dQ,wu64,EM,EH,Zw,lM,lK]at *)
 all_goals(try simp only[←fB a,←fB b])
 all_goals first
  |exact Rj (fH hp.1) (fH hp.2) (by omega)|exact QL (fH hp.1) (fH hp.2) (by omega)|exact acd (fH hp.1) (fH hp.2) hx (by omega) (by omega) (by omega)|exact acC (fH hp.1) (fH hp.2) hx (by omega) (by omega) (by omega)|exact acf hx (by omega) (by omega)|exact fz2 (by omega)|((conv=>whnf);exact⟨x-1,⟨⟨rfl,rfl,Dz (by omega) (by omega),trivial⟩,⟨⟩,⟨by omega,agree_step hx.2 (by omega)⟩,by show x-1<x;omega⟩⟩)|rfl|((repeat' apply And.intro)<;>first|omega|(simp;done)|(simp;omega))⟩
instance aeD(a b:List Nat):DenI Tryz.prog 106 [.c (lmc a),.c (lmc b)] (CanL a∧CanL b) (.int .i64 (fD (val a) (val b))):=⟨λhp=>by
 refine den_len (by kernel_rfl) (λhl=>?_);simp only[lenA,lenC,cellsOf,bK,and_true,true_and]at hl
 all_goals refine amV Tryz.func106 rfl ?_
 all_goals(repeat'((try(conv=>whnf));first
  |refine call_0 ?_|refine call_i ?_ ?_|(with_reducible first|refine onB_t ?_|refine onB_f ?_|refine onB_d (λ_=>?_) (λ_=>?_)|refine onB_n (λ_=>?_) (λ_=>?_))|refine OnB.mk (λ_=>?_) (λ_=>?_)|refine obl_i ?_ ?_|refine Drw.mk (by kernel_rfl) ?_|refine mks_i ?_ ?_|refine slp_i ?_ ?_|(with_reducible first|refine elem_u ?_ ?_|refine elem_0 ?_|refine elem_1 ?_)|refine Ends.mk ?_))
 all_goals(try refine Pr.mk ?_)
 all_goals first
  |((conv=>whnf);refine Sw.Loop.inv (α:=Nat) (λx=>[(0,.c (lmc (a))),(1,.c (lmc (b))),(5,.int .i64 ((x:Int)-1))]) (λx=>[]) (λx=>x≤(a).length∧∀j,x≤j→(a).getD j 0=(b).getD j 0) (λx=>x) ((a).length) ?_ ?_ ?_ (λx hx=>?_))|skip
 all_goals(repeat'((try(conv=>whnf));first
  |refine call_0 ?_|refine call_i ?_ ?_|(with_reducible first|refine onB_t ?_|refine onB_f ?_|refine onB_d (λ_=>?_) (λ_=>?_)|refine onB_n (λ_=>?_) (λ_=>?_))|refine OnB.mk (λ_=>?_) (λ_=>?_)|refine obl_i ?_ ?_|refine Drw.mk (by kernel_rfl) ?_|refine mks_i ?_ ?_|refine slp_i ?_ ?_|(with_reducible first|refine elem_u ?_ ?_|refine elem_0 ?_|refine elem_1 ?_)|refine Ends.mk ?_))
 all_goals(try refine Pr.mk ?_)
 all_goals first|(show SubE _ _;repeat'(first|exact trivial|refine And.intro ?_ ?_))|(show SubB _ _;repeat'(first|exact trivial|refine And.intro ?_ ?_))|skip
 all_goals(try rfl)
 all_goals(try simp(disch:=omega) only[bK,vY,fU,BI,bW,dQ,wu64,EM,EH,Zw,lM,lK]at *)
 all_goals first
  |exact hp|exact Rj hp.1 hp.2 (by omega)|exact QL hp.1 hp.2 (by omega)|exact acd hp.1 hp.2 hx (by omega) (by omega) (by omega)|exact acC hp.1 hp.2 hx (by omega) (by omega) (by omega)|exact acf hx (by omega) (by omega)|exact fz2 (by omega)|exact aeb (by omega)|((conv=>whnf);exact⟨x-1,⟨⟨rfl,rfl,Dz (by omega) (by omega),trivial⟩,⟨⟩,⟨by omega,agree_step hx.2 (by omega)⟩,by show x-1<x;omega⟩⟩)|(rw[bW (by omega) (by omega)])|rfl|((repeat' apply And.intro)<;>first|omega|(simp;done)|(simp;omega))|skip⟩
instance aii(a b:List Nat):DenI Tryz.prog 161 [.c (lmc a),.c (lmc b)] (a.length≤1000000000000∧b.length≤1000000000000∧Lb a∧Lb b) (.c (lmc (pad (a.length+b.length) (val a*val b)))):=⟨λhp=>by
 refine den_len (by kernel_rfl) (λhl=>?_);simp only[lenA,lenC,cellsOf,bK,and_true,true_and]at hl
 all_goals refine amV Tryz.func161 rfl ?_
 all_goals(repeat'((try(conv=>whnf));first
  |refine mks_i ?_ ?_))
 all_goals(try refine Pr.mk ?_)
 all_goals first
  |((conv=>whnf);refine Sw.Loop.inv (α:=List Nat×Nat) (λx=>[(1,.c (lmc b)),(5,.gs 17 (a.length+b.length)),(18,.c (lmc a)),(19,.int .i64 a.length),(20,.int .i64 (x.2:Nat))]) (λx=>[(17,.grow 154 1 (x.1.map λx=>[.v (u32 x)]))]) (λx=>x.2≤a.length∧x.1.length=a.length+b.length∧Lb x.1∧val (x.1.take (x.2+b.length))=val (a.take x.2)*val b) (λx=>a.length-x.2) (List.replicate (a.length+b.length) 0,0) ?_ ?_ ?_ (λx hx=>?_))|skip
 all_goals(repeat'((try(conv=>whnf));first
  |(with_reducible refine onB_d (λ_=>?_) (λ_=>?_))|refine obl_i ?_ ?_|(with_reducible refine elem_u ?_ ?_)|refine Ends.mk ?_))
 all_goals(try refine Pr.mk ?_)
 all_goals first
  |((conv=>whnf);refine Sw.Loop.inv (α:=List Nat×Nat×Nat) (λy=>[(1,.c (lmc b)),(5,.gs 17 (a.length+b.length)),(6,.int .i64 (x.2:Nat)),(7,.int .u32 (a.getD x.2 0:Nat)),(8,.int .u64 (y.2.1:Nat)),(18,.c (lmc a)),(19,.int .i64 a.length),(20,.int .i64 (x.2:Nat)),(25,.c (lmc b)),(26,.int .i64 b.length),(27,.int .i64 (y.2.2:Nat))]) (λy=>[(17,.grow 154 1 (y.1.map λx=>[.v (u32 x)]))]) (λy=>y.2.2≤b.length∧y.1.length=a.length+b.length∧Lb y.1∧y.2.1<1000000000∧val (y.1.take (x.2+b.length))+1000000000^(x.2+y.2.2)*y.2.1=val (a.take x.2)*val b+1000000000^x.2*(a.getD x.2 0*val (b.take y.2.2))) (λy=>b.length-y.2.2) (x.1,0,0) ?_ ?_ ?_ (λy hy=>?_))|skip
 all_goals(repeat'((try(conv=>whnf));first
  |(with_reducible refine onB_d (λ_=>?_) (λ_=>?_))|refine obl_i ?_ ?_|(with_reducible refine elem_u ?_ ?_)))
 all_goals(try refine Pr.mk ?_)
 all_goals first|(show SubE _ _;repeat'(first|exact trivial|refine And.intro ?_ ?_))|(show SubB _ _;repeat'(first|exact trivial|refine And.intro ?_ ?_))|skip
 all_goals(try rfl)
 all_goals(try simp(disch:=omega) only[bK,BI,fU,bW,BQ]at *)
 all_goals first
  |omega|rfl|exact ug _ _|exact⟨by omega,by simp,jy _,QZ _ _ _ _⟩|exact⟨by omega,hx.2.1,hx.2.2.1,by omega,by simp[val,hx.2.2.2]⟩|exact adz hx.2.2.1 hx.2.1 (Gq hx.2.1 (by omega) hx.2.2.2)|(have ga:=hp.2.2.1.getD x.2;have gb:=hp.2.2.2.getD y.2.2;have go:=hy.2.2.1.getD (x.2+y.2.2);obtain⟨c1,c2⟩:=DW ga gb go hy.2.2.2.1;obtain⟨h1,h2,h3,h4,h5⟩:=hy;(conv=>whnf);exact⟨(y.1.set (x.2+y.2.2) ((y.1.getD (x.2+y.2.2) 0+a.getD x.2 0*b.getD y.2.2 0+y.2.1)%1000000000),(y.1.getD (x.2+y.2.2) 0+a.getD x.2 0*b.getD y.2.2 0+y.2.1)/1000000000,y.2.2+1),⟨⟨rfl,rfl,rfl,rfl,iS (by(try simp(disch:=omega) only[dQ,wu64,bW,lM,lK,BQ])<;>omega),rfl,rfl,rfl,rfl,rfl,aW (by omega),trivial⟩,⟨yZ (by(try simp(disch:=omega) only[dQ,wu64,bW,lM,lK,BQ])<;>omega) (by(try simp(disch:=omega) only[dQ,wu64,bW,lM,lK,BQ])<;>omega),trivial⟩,⟨by show y.2.2+1≤_;omega,by simp only[JB];exact h2,eU h3 (sK _ (by decide)),c2,wR (by omega) (by omega) h5 rfl rfl rfl⟩,by show _-(y.2.2+1)<_-y.2.2;omega⟩⟩)|(obtain⟨h1,h2,h3,h4,h5⟩:=hy;(conv=>whnf);exact⟨(y.1.set (x.2+b.length) y.2.1,x.2+1),⟨⟨rfl,rfl,rfl,rfl,aW (by omega),trivial⟩,⟨yZ (by(try simp(disch:=omega) only[dQ,wu64,bW,lM,lK,BQ])<;>omega) (by(try simp(disch:=omega) only[dQ,wu64,bW,lM,lK,BQ])<;>omega),trivial⟩,⟨by show x.2+1≤_;omega,by simp only[JB];exact h2,eU h3 h4,y7 (by omega) (by rw[show y.2.2=b.length by omega]at h5;exact h5)⟩,by show _-(x.2+1)<_-x.2;omega⟩⟩)⟩
instance ahc(a b:List Nat):DenI Tryz.prog 108 [.c (lmc a),.c (lmc b)] (a.length≤1000000000000∧b.length≤1000000000000∧Lb a∧Lb b) (.c (lmc (lim (val a*val b)))):=⟨λhp=>by
 refine den_len (by kernel_rfl) (λhl=>?_);simp only[lenA,lenC,cellsOf,bK,and_true,true_and]at hl
 all_goals refine amV Tryz.func108 rfl ?_
 all_goals(repeat'((try(conv=>whnf));first
  |refine call_0 ?_|refine call_i ?_ ?_|(with_reducible first|refine onB_t ?_|refine onB_f ?_|refine onB_d (λ_=>?_) (λ_=>?_)|refine onB_n (λ_=>?_) (λ_=>?_))|refine OnB.mk (λ_=>?_) (λ_=>?_)|refine obl_i ?_ ?_|refine Drw.mk (by kernel_rfl) ?_|refine mks_i ?_ ?_|refine slp_i ?_ ?_|(with_reducible first|refine elem_u ?_ ?_|refine elem_0 ?_|refine elem_1 ?_)|refine Ends.mk ?_))
 all_goals(try refine Pr.mk ?_)
 all_goals first
  |((conv=>whnf);refine Sw.Loop.inv (α:=List Nat×Nat) (λx=>[(0,.c (lmc a)),(1,.c (lmc b)),(5,.gs 14 (a.length+b.length)),(6,.int .i64 (x.2:Nat))]) (λx=>[(14,.grow 154 1 (x.1.map λx=>[.v (u32 x)]))]) (λx=>x.2≤a.length∧x.1.length=a.length+b.length∧Lb x.1∧val (x.1.take (x.2+b.length))=val (a.take x.2)*val b) (λx=>a.length-x.2) (List.replicate (a.length+b.length) 0,0) ?_ ?_ ?_ (λx hx=>?_))|skip
 all_goals(repeat'((try(conv=>whnf));first
  |refine call_0 ?_|refine call_i ?_ ?_|(with_reducible first|refine onB_t ?_|refine onB_f ?_|refine onB_d (λ_=>?_) (λ_=>?_)|refine onB_n (λ_=>?_) (λ_=>?_))|refine OnB.mk (λ_=>?_) (λ_=>?_)|refine obl_i ?_ ?_|refine Drw.mk (by kernel_rfl) ?_|refine mks_i ?_ ?_|refine slp_i ?_ ?_|(with_reducible first|refine elem_u ?_ ?_|refine elem_0 ?_|refine elem_1 ?_)|refine Ends.mk ?_))
 all_goals(try refine Pr.mk ?_)
 all_goals first
  |((conv=>whnf);refine Sw.Loop.inv (α:=List Nat×Nat×Nat) (λy=>[(0,.c (lmc a)),(1,.c (lmc b)),(5,.gs 14 (a.length+b.length)),(6,.int .i64 (x.2:Nat)),(7,.int .u64 (y.2.1:Nat)),(8,.int .i64 (y.2.2:Nat))]) (λy=>[(14,.grow 154 1 (y.1.map λx=>[.v (u32 x)]))]) (λy=>y.2.2≤b.length∧y.1.length=a.length+b.length∧Lb y.1∧y.2.1<1000000000∧val (y.1.take (x.2+b.length))+1000000000^(x.2+y.2.2)*y.2.1=val (a.take x.2)*val b+1000000000^x.2*(a.getD x.2 0*val (b.take y.2.2))) (λy=>b.length-y.2.2) (x.1,0,0) ?_ ?_ ?_ (λy hy=>?_))|skip
 all_goals(repeat'((try(conv=>whnf));first
  |refine call_0 ?_|refine call_i ?_ ?_|(with_reducible first|refine onB_t ?_|refine onB_f ?_|refine onB_d (λ_=>?_) (λ_=>?_)|refine onB_n (λ_=>?_) (λ_=>?_))|refine OnB.mk (λ_=>?_) (λ_=>?_)|refine obl_i ?_ ?_|refine Drw.mk (by kernel_rfl) ?_|refine mks_i ?_ ?_|refine slp_i ?_ ?_|(with_reducible first|refine elem_u ?_ ?_|refine elem_0 ?_|refine elem_1 ?_)|refine Ends.mk ?_))
 all_goals(try refine Pr.mk ?_)
 all_goals first|(show SubE _ _;repeat'(first|exact trivial|refine And.intro ?_ ?_))|(show SubB _ _;repeat'(first|exact trivial|refine And.intro ?_ ?_))|skip
 all_goals(try rfl)
 all_goals(try simp(disch:=omega) only[bK,BI,fU,bW,BQ]at *)
 all_goals first
  |omega|rfl|exact ug _ _|(constructor<;>omega)|exact aW (by omega)|(simp(disch:=omega) only[bK,bW];omega)|exact⟨by omega,by simp,jy _,QZ _ _ _ _⟩|exact⟨by omega,hx.2.1,hx.2.2.1,by omega,by simp[val,hx.2.2.2]⟩|exact lE (by rw[←Gq hx.2.1 (by omega) hx.2.2.2,kW _ hx.2.2.1])|(have ga:=hp.2.2.1.getD x.2;have gb:=hp.2.2.2.getD y.2.2;have go:=hy.2.2.1.getD (x.2+y.2.2);obtain⟨c1,c2⟩:=DW ga gb go hy.2.2.2.1;obtain⟨h1,h2,h3,h4,h5⟩:=hy;(conv=>whnf);exact⟨(y.1.set (x.2+y.2.2) ((y.1.getD (x.2+y.2.2) 0+a.getD x.2 0*b.getD y.2.2 0+y.2.1)%1000000000),(y.1.getD (x.2+y.2.2) 0+a.getD x.2 0*b.getD y.2.2 0+y.2.1)/1000000000,y.2.2+1),⟨⟨rfl,rfl,rfl,rfl,iS (by(try simp(disch:=omega) only[dQ,wu64,bW,lM,lK,BQ])<;>omega),aW (by omega),trivial⟩,⟨yZ (by(try simp(disch:=omega) only[dQ,wu64,bW,lM,lK,BQ])<;>omega) (by(try simp(disch:=omega) only[dQ,wu64,bW,lM,lK,BQ])<;>omega),trivial⟩,⟨by show y.2.2+1≤_;omega,by simp only[JB];exact h2,eU h3 (sK _ (by decide)),c2,wR (by omega) (by omega) h5 rfl rfl rfl⟩,by show _-(y.2.2+1)<_-y.2.2;omega⟩⟩)|(obtain⟨h1,h2,h3,h4,h5⟩:=hy;(conv=>whnf);exact⟨(y.1.set (x.2+b.length) y.2.1,x.2+1),⟨⟨rfl,rfl,rfl,aW (by omega),trivial⟩,⟨yZ (by(try simp(disch:=omega) only[dQ,wu64,bW,lM,lK,BQ])<;>omega) (by(try simp(disch:=omega) only[dQ,wu64,bW,lM,lK,BQ])<;>omega),trivial⟩,⟨by show x.2+1≤_;omega,by simp only[JB];exact h2,eU h3 h4,y7 (by omega) (by rw[show y.2.2=b.length by omega]at h5;exact h5)⟩,by show _-(x.2+1)<_-x.2;omega⟩⟩)|skip⟩
instance agR(l:List Nat):DenI Tryz.prog 154 [.c (lmc l)] (l.length≤1000000000000∧Lb l∧val l<18446744073709551616) (.int .u64 ((val l:Nat):Int)):=⟨λhp=>by
 refine den_len (by kernel_rfl) (λhl=>?_);simp only[lenA,lenC,cellsOf,bK,and_true,true_and]at hl
 all_goals refine amV Tryz.func154 rfl ?_
 all_goals(repeat'((try(conv=>whnf));first
  |refine call_0 ?_|refine call_i ?_ ?_|(with_reducible first|refine onB_t ?_|refine onB_f ?_|refine onB_d (λ_=>?_) (λ_=>?_)|refine onB_n (λ_=>?_) (λ_=>?_))|refine OnB.mk (λ_=>?_) (λ_=>?_)|refine obl_i ?_ ?_|refine Drw.mk (by kernel_rfl) ?_|refine mks_i ?_ ?_|refine slp_i ?_ ?_|(with_reducible first|refine elem_u ?_ ?_|refine elem_0 ?_|refine elem_1 ?_)|refine Ends.mk ?_))
 all_goals(try refine Pr.mk ?_)
 all_goals first
  |((conv=>whnf);refine Sw.Loop.inv (α:=Nat) (λx=>[(0,.c (lmc l)),(3,.int .u64 (val (l.drop x):Nat)),(4,.int .i64 ((x:Int)-1))]) (λx=>[]) (λx=>x≤l.length) (λx=>x) l.length ?_ ?_ ?_ (λx hx=>?_))|skip
 all_goals(repeat'((try(conv=>whnf));first
  |refine call_0 ?_|refine call_i ?_ ?_|(with_reducible first|refine onB_t ?_|refine onB_f ?_|refine onB_d (λ_=>?_) (λ_=>?_)|refine onB_n (λ_=>?_) (λ_=>?_))|refine OnB.mk (λ_=>?_) (λ_=>?_)|refine obl_i ?_ ?_|refine Drw.mk (by kernel_rfl) ?_|refine mks_i ?_ ?_|refine slp_i ?_ ?_|(with_reducible first|refine elem_u ?_ ?_|refine elem_0 ?_|refine elem_1 ?_)|refine Ends.mk ?_))
 all_goals(try refine Pr.mk ?_)
 all_goals first|(show SubE _ _;repeat'(first|exact trivial|refine And.intro ?_ ?_))|(show SubB _ _;repeat'(first|exact trivial|refine And.intro ?_ ?_))|skip
 all_goals(try rfl)
 all_goals(try simp(disch:=omega) only[bK,vY,fU,BI,bW,dQ,wu64,EM,EH,Zw,lM,lK]at *)
 all_goals first
  |omega|rfl|exact ug _ _|(constructor<;>omega)|(rw[iC (kU _)];rfl)|(refine iE ?_;rw[show x=0 by omega,Zz])|(have hd:=qQ (l:=l) (k:=x) (by omega) hx;have hle:=Ae l (x-1);have hg:=hp.2.1.getD (x-1);((conv=>whnf);exact⟨x-1,⟨⟨rfl,iS (by(try simp(disch:=omega) only[dQ,wu64,bW,lM,lK,EH,BQ,Vb,Ve,U4,U7,U8])<;>omega),Dz (by omega) (by omega),trivial⟩,⟨⟩,(by omega),by show x-1<x;omega⟩⟩))|skip⟩
instance ahL(n:Nat):DenI Tryz.prog 117 [.int .u64 (n:Nat)] (n<18446744073709551616) (.c (lmc (lim n))):=⟨λhp=>by
 refine den_len (by kernel_rfl) (λhl=>?_);simp only[lenA,lenC,cellsOf,bK,and_true,true_and]at hl
 all_goals refine amV Tryz.func117 rfl ?_
 all_goals first
  |((conv=>whnf);refine Sw.Loop.ghost 3 11 154 1 ?_ rfl rfl rfl (by decide))
 all_goals first
  |((conv=>whnf);refine Sw.Loop.inv (α:=List Nat×Nat) (λx=>[(0,.int .u64 (x.2:Nat)),(3,.gs 11 x.1.length)]) (λx=>[(11,.grow 154 1 (x.1.map λx=>[.v (u32 x)]))]) (λx=>x.2≤n∧lim n=x.1++lim x.2) (λx=>x.2) ([],n) ?_ ?_ ?_ (λx hx=>?_))
 all_goals(repeat'((try(conv=>whnf));first
  |(with_reducible refine onB_d (λ_=>?_) (λ_=>?_))|refine obl_i ?_ ?_|refine Ends.mk ?_))
 all_goals(try refine Pr.mk ?_)
 all_goals first|(show SubE _ _;repeat'(first|exact trivial|refine And.intro ?_ ?_))|(show SubB _ _;repeat'(first|exact trivial|refine And.intro ?_ ?_))|skip
 all_goals(try rfl)
 all_goals(try simp only[bK,BI,fU]at *)
 all_goals first
  |omega|exact⟨kU _,rfl⟩|exact Td hx (by omega)|(have:=Ue hp hx (by omega);simp only[gY,bK,iH,jf];omega)|(have h2:=hx.1;((conv=>whnf);exact⟨(x.1++[x.2%1000000000],x.2/1000000000),⟨⟨iS (by(try simp(disch:=omega) only[dQ,wu64,bW,lM,lK,EH,BQ,Vb,Ve,U4,U7,U8])<;>omega),sZ (by simp),trivial⟩,⟨MW (by(try simp(disch:=omega) only[dQ,wu64,bW,lM,lK,EH,BQ,Vb,Ve,U4,U7,U8])<;>omega),trivial⟩,(O5 hx (by omega)),by show x.2/1000000000<x.2;omega⟩⟩))⟩
instance aif(n:Nat):DenI Tryz.prog 196 [.int .u64 (n:Nat)] (n<18446744073709551616) (.c (lmc (pad 3 n))):=⟨λhp=>by
 refine den_len (by kernel_rfl) (λhl=>?_);simp only[lenA,lenC,cellsOf,bK,and_true,true_and]at hl
 all_goals refine amV Tryz.func196 rfl ?_
 all_goals(repeat'((try(conv=>whnf));first
  |refine obl_i ?_ ?_|refine Ends.mk ?_))
 all_goals(try refine Pr.mk ?_)
 all_goals first
  |omega|exact SQ (by omega) (by(try simp(disch:=omega) only[dQ,wu64,bW,lM,lK,EH,BQ,Vb,Ve,U4,U7,U8])<;>omega) (by(try simp(disch:=omega) only[dQ,wu64,bW,lM,lK,EH,BQ,Vb,Ve,U4,U7,U8])<;>omega) (by(try simp(disch:=omega) only[dQ,wu64,bW,lM,lK,EH,BQ,Vb,Ve,U4,U7,U8])<;>omega)⟩
instance ajE(a:Int):DenI Tryz.prog 195 [Z a] (True) (.tup [.int .u64 ((if sz a≤2 then a.natAbs else 0:Nat):Int),.bool (decide (sz a≤2))]):=⟨λhp=>by
 refine den_len (by kernel_rfl) (λhl=>?_);simp only[lenA,lenC,cellsOf,bK,and_true,true_and]at hl
 all_goals refine amV Tryz.func195 rfl ?_
 all_goals(repeat'((try(conv=>whnf));first
  |(with_reducible refine onB_d (λ_=>?_) (λ_=>?_))|refine Drw.mk (by kernel_rfl) ?_|(with_reducible refine elem_u ?_ ?_)|refine Ends.mk ?_))
 all_goals(try refine Pr.mk ?_)
 all_goals(try simp only[bK,BI,fU]at *)
 all_goals(have g0:=(aX a.natAbs).getD 0;have g1:=(aX a.natAbs).getD 1)
 all_goals first
  |omega|exact afm (by omega)|exact adu (by omega) (by(try simp(disch:=omega) only[dQ,wu64,bW,lM,lK,EH,BQ,Vb,Ve,U4,U7,U8])<;>omega)|exact adU (by omega) (by(try simp(disch:=omega) only[dQ,wu64,bW,lM,lK,EH,BQ,Vb,Ve,U4,U7,U8])<;>omega)|exact adZ (by omega)⟩
instance ahm(a:List Nat)(b:Nat):DenI Tryz.prog 231 [.c (lmc a),.int .u32 (b:Nat)] (a.length≤1000000000000∧Lb a∧0<b∧b<1000000000) (.tup [.c (lmc (pad a.length (val a / b))),.c (lmc [val a % b])]):=⟨λhp=>by
 refine den_len (by kernel_rfl) (λhl=>?_);simp only[lenA,lenC,cellsOf,bK,and_true,true_and]at hl
 all_goals refine amV Tryz.func231 rfl ?_
 all_goals(repeat'((try(conv=>whnf));first
  |refine mks_i ?_ ?_))
 all_goals(try refine Pr.mk ?_)
 all_goals first
  |((conv=>whnf);refine Sw.Loop.inv (α:=List Nat×Nat×Nat) (λx=>[(0,.c (lmc a)),(1,.int .u32 (b:Nat)),(6,.gs 12 a.length),(7,.int .u64 (x.2.1:Nat)),(8,.int .i64 ((x.2.2:Int)-1))]) (λx=>[(12,.grow 154 1 (x.1.map λx=>[.v (u32 x)]))]) (λx=>x.2.2≤a.length∧x.1.length=a.length∧Lb x.1∧x.2.1<b∧val (a.drop x.2.2)=b*val (x.1.drop x.2.2)+x.2.1) (λx=>x.2.2) (List.replicate a.length 0,0,a.length) ?_ ?_ ?_ (λx hx=>?_))|skip
 all_goals(repeat'((try(conv=>whnf));first
  |(with_reducible refine onB_d (λ_=>?_) (λ_=>?_))|refine obl_i ?_ ?_|refine Drw.mk (by kernel_rfl) ?_|(with_reducible refine elem_u ?_ ?_)|refine Ends.mk ?_))
 all_goals(try refine Pr.mk ?_)
 all_goals first|(show SubE _ _;repeat'(first|exact trivial|refine And.intro ?_ ?_))|(show SubB _ _;repeat'(first|exact trivial|refine And.intro ?_ ?_))|skip
 all_goals(try rfl)
 all_goals(try simp(disch:=omega) only[bK,vY,fU,BI,bW,dQ,wu64,EM,EH,Zw,lM,lK]at *)
 all_goals first
  |omega|rfl|exact ug _ _|exact⟨by omega,by simp,jy _,by omega,by rw[iC (kU _),iC (by simp)];simp⟩|(have h2:=hx.2.2.2.2;rw[show x.2.2=0 by omega]at h2;exact ab1 hp.2.2.1 hx.2.2.2.1 hx.2.1 hx.2.2.1 h2)|(have ga:=hp.2.1.getD (x.2.2-1);have c4:=Int.natCast_nonneg ((x.2.1*1000000000+a.getD (x.2.2-1) 0)/b);obtain⟨c1,c2,c3⟩:=Gj hx.2.2.2.1 hp.2.2.2 ga (t:=_) rfl;obtain⟨h1,h2,h3,h4,h5⟩:=hx;((conv=>whnf);exact⟨(x.1.set (x.2.2-1) ((x.2.1*1000000000+a.getD (x.2.2-1) 0)/b),(x.2.1*1000000000+a.getD (x.2.2-1) 0)%b,x.2.2-1),⟨⟨rfl,rfl,rfl,iS (by(try simp(disch:=omega) only[dQ,wu64,bW,lM,lK,EH,BQ,Vb,Ve,U4,U7,U8])<;>omega),Dz (by omega) (by omega),trivial⟩,⟨yZ (by(try simp(disch:=omega) only[dQ,wu64,bW,lM,lK,EH,BQ,Vb,Ve,U4,U7,U8])<;>omega) (by(try simp(disch:=omega) only[dQ,wu64,bW,lM,lK,EH,BQ,Vb,Ve,U4,U7,U8])<;>omega),trivial⟩,⟨by show x.2.2-1≤_;omega,by simp only[JB];exact h2,eU h3 c1,c2,Ac (by omega) h1 (by omega) h5 rfl rfl⟩,by show x.2.2-1<x.2.2;omega⟩⟩))⟩
instance(b:Nat):DenI Tryz.prog 142 [.c (.sl 1 [[.v (.int .u32 (b:Nat))]])] True (.c (lmc (ah [b]))):=⟨λhp=>(inferInstance:DenI Tryz.prog 142 [.c (lmc [b])] _ _).den hp⟩
instance ala(a:List Nat)(b:Nat):DenI Tryz.prog 194 [.c (lmc a),.int .u32 (b:Nat)] (a.length≤1000000000000∧Lb a∧b<1000000000) (.c (lmc (lim (val a*b)))):=⟨λhp=>by
 refine den_len (by kernel_rfl) (λhl=>?_);simp only[lenA,lenC,cellsOf,bK,and_true,true_and]at hl
 all_goals refine amV Tryz.func194 rfl ?_
 all_goals(repeat'((try(conv=>whnf));first
  |refine call_0 ?_|refine call_i ?_ ?_|(with_reducible first|refine onB_t ?_|refine onB_f ?_|refine onB_d (λ_=>?_) (λ_=>?_)|refine onB_n (λ_=>?_) (λ_=>?_))|refine OnB.mk (λ_=>?_) (λ_=>?_)|refine obl_i ?_ ?_|refine Drw.mk (by kernel_rfl) ?_|refine mks_i ?_ ?_|refine slp_i ?_ ?_|(with_reducible first|refine elem_u ?_ ?_|refine elem_0 ?_|refine elem_1 ?_)|refine Ends.mk ?_))
 all_goals(try refine Pr.mk ?_)
 all_goals first
  |exact⟨hp.1,by have:=fQ [b];simp at this;omega,hp.2.1,oI (Lb.cons hp.2.2 Lb.nil)⟩|(refine lE ?_;rw[fB];simp[val])|skip⟩
instance aip(a b:List Nat):DenI Tryz.prog 143 [.c (lmc a),.c (lmc b)] (a.length≤1000000000000∧b.length≤1000000000000∧Lb a∧Lb b) (.c (lmc (lim (val a+val b)))):=⟨λhp=>by
 refine den_len (by kernel_rfl) (λhl=>?_);simp only[lenA,lenC,cellsOf,bK,and_true,true_and]at hl
 all_goals refine amV Tryz.func143 rfl ?_
 all_goals(repeat'((try(conv=>whnf));first
  |refine call_0 ?_|refine call_i ?_ ?_|(with_reducible first|refine onB_t ?_|refine onB_f ?_|refine onB_d (λ_=>?_) (λ_=>?_)|refine onB_n (λ_=>?_) (λ_=>?_))|refine OnB.mk (λ_=>?_) (λ_=>?_)|refine obl_i ?_ ?_|refine Drw.mk (by kernel_rfl) ?_|refine mks_i ?_ ?_|refine slp_i ?_ ?_|(with_reducible first|refine elem_u ?_ ?_|refine elem_0 ?_|refine elem_1 ?_)|refine Ends.mk ?_))
 all_goals(try refine Pr.mk ?_)
 all_goals(try simp(disch:=omega) only[bK,vY,fU,BI,bW,dQ,wu64,EM,EH,Zw,lM,lK]at *)
 all_goals first
  |(have hh:b.length≤a.length:=(by omega);(conv=>whnf);refine Sw.Loop.inv (α:=List Nat×Nat×Nat) (λx=>[(0,.c (lmc a)),(1,.c (lmc b)),(5,.gs 18 (a.length+1)),(6,.int .u32 (x.2.1:Nat)),(7,.int .i64 (x.2.2:Nat))]) (λx=>[(18,.grow 154 1 (x.1.map λx=>[.v (u32 x)]))]) (λx=>x.2.2≤a.length∧x.1.length=a.length+1∧Lb x.1∧x.2.1≤1∧val (x.1.take x.2.2)+1000000000^x.2.2*x.2.1=val (a.take x.2.2)+val (b.take x.2.2)) (λx=>a.length-x.2.2) (List.replicate (a.length+1) 0,0,0) ?_ ?_ ?_ (λx hx=>?_))|(have hh:a.length≤b.length:=(by omega);(conv=>whnf);refine Sw.Loop.inv (α:=List Nat×Nat×Nat) (λx=>[(0,.c (lmc b)),(1,.c (lmc a)),(5,.gs 18 (b.length+1)),(6,.int .u32 (x.2.1:Nat)),(7,.int .i64 (x.2.2:Nat))]) (λx=>[(18,.grow 154 1 (x.1.map λx=>[.v (u32 x)]))]) (λx=>x.2.2≤b.length∧x.1.length=b.length+1∧Lb x.1∧x.2.1≤1∧val (x.1.take x.2.2)+1000000000^x.2.2*x.2.1=val (b.take x.2.2)+val (a.take x.2.2)) (λx=>b.length-x.2.2) (List.replicate (b.length+1) 0,0,0) ?_ ?_ ?_ (λx hx=>?_))|skip
 all_goals(repeat'((try(conv=>whnf));first
  |refine call_0 ?_|refine call_i ?_ ?_|(with_reducible first|refine onB_t ?_|refine onB_f ?_|refine onB_d (λ_=>?_) (λ_=>?_)|refine onB_n (λ_=>?_) (λ_=>?_))|refine OnB.mk (λ_=>?_) (λ_=>?_)|refine obl_i ?_ ?_|refine Drw.mk (by kernel_rfl) ?_|refine mks_i ?_ ?_|refine slp_i ?_ ?_|(with_reducible first|refine elem_u ?_ ?_|refine elem_0 ?_|refine elem_1 ?_)|refine Ends.mk ?_))
 all_goals(try refine Pr.mk ?_)
 all_goals first|(show SubE _ _;repeat'(first|exact trivial|refine And.intro ?_ ?_))|(show SubB _ _;repeat'(first|exact trivial|refine And.intro ?_ ?_))|skip
 all_goals(try rfl)
 all_goals(try simp only[bK,BI,fU]at *)
 all_goals first
  |omega|rfl|exact ug _ _|(constructor<;>omega)|(obtain⟨h1,h2,h3,h4,h5⟩:=hx;have ga:=hp.2.2.1.getD x.2.2;have gb:=hp.2.2.2.getD x.2.2;have gz:=getD_none (l:=b) (k:=x.2.2) (by omega);(conv=>whnf);exact⟨(x.1.set x.2.2 ((x.2.1+a.getD x.2.2 0+b.getD x.2.2 0)%1000000000),(x.2.1+a.getD x.2.2 0+b.getD x.2.2 0)/1000000000,x.2.2+1),⟨⟨rfl,rfl,rfl,iS (by(try simp(disch:=omega) only[dQ,wu64,bW,lM,lK])<;>omega),aW (by omega),trivial⟩,⟨yZ rfl (by(try simp(disch:=omega) only[dQ,wu64,bW,lM,lK])<;>omega),trivial⟩,⟨by show x.2.2+1≤_;omega,by simp only[JB];exact h2,eU h3 (sK _ (by decide)),by show _/1000000000≤1;omega,vK (by omega) h5 rfl rfl rfl⟩,by show _-(x.2.2+1)<_-x.2.2;omega⟩⟩)|(obtain⟨h1,h2,h3,h4,h5⟩:=hx;have ga:=hp.2.2.1.getD x.2.2;have gb:=hp.2.2.2.getD x.2.2;(conv=>whnf);exact⟨(x.1.set x.2.2 ((x.2.1+a.getD x.2.2 0+b.getD x.2.2 0)%1000000000),(x.2.1+a.getD x.2.2 0+b.getD x.2.2 0)/1000000000,x.2.2+1),⟨⟨rfl,rfl,rfl,iS (by(try simp(disch:=omega) only[dQ,wu64,bW,lM,lK])<;>omega),aW (by omega),trivial⟩,⟨yZ rfl (by(try simp(disch:=omega) only[dQ,wu64,bW,lM,lK])<;>omega),trivial⟩,⟨by show x.2.2+1≤_;omega,by simp only[JB];exact h2,eU h3 (sK _ (by decide)),by show _/1000000000≤1;omega,vK (by omega) h5 rfl rfl rfl⟩,by show _-(x.2.2+1)<_-x.2.2;omega⟩⟩)|(obtain⟨h1,h2,h3,h4,h5⟩:=hx;have ga:=hp.2.2.2.getD x.2.2;have gb:=hp.2.2.1.getD x.2.2;have gz:=getD_none (l:=a) (k:=x.2.2) (by omega);(conv=>whnf);exact⟨(x.1.set x.2.2 ((x.2.1+b.getD x.2.2 0+a.getD x.2.2 0)%1000000000),(x.2.1+b.getD x.2.2 0+a.getD x.2.2 0)/1000000000,x.2.2+1),⟨⟨rfl,rfl,rfl,iS (by(try simp(disch:=omega) only[dQ,wu64,bW,lM,lK])<;>omega),aW (by omega),trivial⟩,⟨yZ rfl (by(try simp(disch:=omega) only[dQ,wu64,bW,lM,lK])<;>omega),trivial⟩,⟨by show x.2.2+1≤_;omega,by simp only[JB];exact h2,eU h3 (sK _ (by decide)),by show _/1000000000≤1;omega,vK (by omega) h5 rfl rfl rfl⟩,by show _-(x.2.2+1)<_-x.2.2;omega⟩⟩)|(obtain⟨h1,h2,h3,h4,h5⟩:=hx;have ga:=hp.2.2.2.getD x.2.2;have gb:=hp.2.2.1.getD x.2.2;(conv=>whnf);exact⟨(x.1.set x.2.2 ((x.2.1+b.getD x.2.2 0+a.getD x.2.2 0)%1000000000),(x.2.1+b.getD x.2.2 0+a.getD x.2.2 0)/1000000000,x.2.2+1),⟨⟨rfl,rfl,rfl,iS (by(try simp(disch:=omega) only[dQ,wu64,bW,lM,lK])<;>omega),aW (by omega),trivial⟩,⟨yZ rfl (by(try simp(disch:=omega) only[dQ,wu64,bW,lM,lK])<;>omega),trivial⟩,⟨by show x.2.2+1≤_;omega,by simp only[JB];exact h2,eU h3 (sK _ (by decide)),by show _/1000000000≤1;omega,vK (by omega) h5 rfl rfl rfl⟩,by show _-(x.2.2+1)<_-x.2.2;omega⟩⟩)|exact⟨by omega,by simp,jy _,by omega,by simp[val]⟩|skip
 all_goals(try simp only[ajd]at *)
 all_goals(repeat'((try(conv=>whnf));first
  |refine call_0 ?_|refine call_i ?_ ?_|(with_reducible first|refine onB_t ?_|refine onB_f ?_|refine onB_d (λ_=>?_) (λ_=>?_)|refine onB_n (λ_=>?_) (λ_=>?_))|refine OnB.mk (λ_=>?_) (λ_=>?_)|refine obl_i ?_ ?_|refine Drw.mk (by kernel_rfl) ?_|refine mks_i ?_ ?_|refine slp_i ?_ ?_|(with_reducible first|refine elem_u ?_ ?_|refine elem_0 ?_|refine elem_1 ?_)|refine Ends.mk ?_))
 all_goals(try refine Pr.mk ?_)
 all_goals first
  |omega|rfl|exact ug _ _|(constructor<;>omega)|(simp only[bK,JB];omega)|exact V7 hx.2.1 (by omega) hh hx.2.2.1 hx.2.2.2.1 hx.2.2.2.2 (by omega)|skip⟩
instance agQ(a b:List Nat):DenI Tryz.prog 144 [.c (lmc a),.c (lmc b)] (a.length≤1000000000000∧b.length≤1000000000000∧Lb a∧Lb b∧b.length≤a.length∧val b≤val a) (.c (lmc (lim (val a-val b)))):=⟨λhp=>by
 refine den_len (by kernel_rfl) (λhl=>?_);simp only[lenA,lenC,cellsOf,bK,and_true,true_and]at hl
 all_goals refine amV Tryz.func144 rfl ?_
 all_goals(repeat'((try(conv=>whnf));first
  |refine mks_i ?_ ?_))
 all_goals(try refine Pr.mk ?_)
 all_goals first
  |((conv=>whnf);refine Sw.Loop.inv (α:=List Nat×Nat×Nat) (λx=>[(0,.c (lmc a)),(1,.c (lmc b)),(5,.gs 11 a.length),(6,.int .u32 (x.2.1:Nat)),(7,.int .i64 (x.2.2:Nat))]) (λx=>[(11,.grow 154 1 (x.1.map λx=>[.v (u32 x)]))]) (λx=>x.2.2≤a.length∧x.1.length=a.length∧Lb x.1∧x.2.1≤1∧val (x.1.take x.2.2)+val (b.take x.2.2)=val (a.take x.2.2)+1000000000^x.2.2*x.2.1) (λx=>a.length-x.2.2) (List.replicate a.length 0,0,0) ?_ ?_ ?_ (λx hx=>?_))|skip
 all_goals(repeat'((try(conv=>whnf));first
  |refine call_0 ?_|(with_reducible refine onB_d (λ_=>?_) (λ_=>?_))|refine obl_i ?_ ?_|(with_reducible refine elem_u ?_ ?_)|refine Ends.mk ?_))
 all_goals(try refine Pr.mk ?_)
 all_goals first|(show SubE _ _;repeat'(first|exact trivial|refine And.intro ?_ ?_))|(show SubB _ _;repeat'(first|exact trivial|refine And.intro ?_ ?_))|skip
 all_goals(try rfl)
 all_goals(try simp only[bK,BI,fU]at *)
 all_goals first
  |omega|rfl|exact ug _ _|exact⟨by omega,by simp,jy _,by omega,by simp[val]⟩|exact Un hx.2.2.1 hp.2.2.1 hx.2.1 (by omega) hp.2.2.2.2.1 hp.2.2.2.2.2 hx.2.2.2.2|(obtain⟨h1,h2,h3,h4,h5⟩:=hx;have ga:=hp.2.2.1.getD x.2.2;have gb:=hp.2.2.2.1.getD x.2.2;have gz:=getD_none (l:=b) (k:=x.2.2) (by omega);(try simp(disch:=omega) only[dQ]at *);(conv=>whnf);exact⟨(x.1.set x.2.2 ((a.getD x.2.2 0+1000000000-x.2.1-b.getD x.2.2 0)%1000000000),1-(a.getD x.2.2 0+1000000000-x.2.1-b.getD x.2.2 0)/1000000000,x.2.2+1),⟨⟨rfl,rfl,rfl,iS (by(try simp(disch:=omega) only[dQ,wu64,bW,lM,lK])<;>omega),aW (by omega),trivial⟩,⟨yZ rfl (by(try simp(disch:=omega) only[dQ,wu64,bW,lM,lK])<;>omega),trivial⟩,⟨by show x.2.2+1≤_;omega,by simp only[JB];exact h2,eU h3 (sK _ (by decide)),by show 1-_/1000000000≤1;omega,qX (by omega) h5 (by dsimp only;omega)⟩,by show _-(x.2.2+1)<_-x.2.2;omega⟩⟩)|(obtain⟨h1,h2,h3,h4,h5⟩:=hx;have ga:=hp.2.2.1.getD x.2.2;have gb:=hp.2.2.2.1.getD x.2.2;(try simp(disch:=omega) only[dQ]at *);(conv=>whnf);exact⟨(x.1.set x.2.2 ((a.getD x.2.2 0+1000000000-x.2.1-b.getD x.2.2 0)%1000000000),1-(a.getD x.2.2 0+1000000000-x.2.1-b.getD x.2.2 0)/1000000000,x.2.2+1),⟨⟨rfl,rfl,rfl,iS (by(try simp(disch:=omega) only[dQ,wu64,bW,lM,lK])<;>omega),aW (by omega),trivial⟩,⟨yZ rfl (by(try simp(disch:=omega) only[dQ,wu64,bW,lM,lK])<;>omega),trivial⟩,⟨by show x.2.2+1≤_;omega,by simp only[JB];exact h2,eU h3 (sK _ (by decide)),by show 1-_/1000000000≤1;omega,qX (by omega) h5 (by dsimp only;omega)⟩,by show _-(x.2.2+1)<_-x.2.2;omega⟩⟩)⟩
instance aij(a b:List Nat):DenI Tryz.prog 236 [.c (lmc a),.c (lmc b)] (a.length≤1000000000000∧b.length≤1000000000000∧Lb a∧Lb b∧b.length≤a.length∧val b≤val a) (.c (lmc (pad a.length (val a-val b)))):=⟨λhp=>by
 refine den_len (by kernel_rfl) (λhl=>?_);simp only[lenA,lenC,cellsOf,bK,and_true,true_and]at hl
 all_goals refine amV Tryz.func236 rfl ?_
 all_goals(repeat'((try(conv=>whnf));first
  |refine mks_i ?_ ?_))
 all_goals(try refine Pr.mk ?_)
 all_goals first
  |((conv=>whnf);refine Sw.Loop.inv (α:=List Nat×Nat×Nat) (λx=>[(1,.c (lmc b)),(5,.gs 12 a.length),(6,.int .u32 (x.2.1:Nat)),(13,.c (lmc a)),(14,.int .i64 a.length),(15,.int .i64 (x.2.2:Nat))]) (λx=>[(12,.grow 154 1 (x.1.map λx=>[.v (u32 x)]))]) (λx=>x.2.2≤a.length∧x.1.length=a.length∧Lb x.1∧x.2.1≤1∧val (x.1.take x.2.2)+val (b.take x.2.2)=val (a.take x.2.2)+1000000000^x.2.2*x.2.1) (λx=>a.length-x.2.2) (List.replicate a.length 0,0,0) ?_ ?_ ?_ (λx hx=>?_))|skip
 all_goals(repeat'((try(conv=>whnf));first
  |(with_reducible refine onB_d (λ_=>?_) (λ_=>?_))|refine obl_i ?_ ?_|(with_reducible refine elem_u ?_ ?_)|refine Ends.mk ?_))
 all_goals(try refine Pr.mk ?_)
 all_goals first|(show SubE _ _;repeat'(first|exact trivial|refine And.intro ?_ ?_))|(show SubB _ _;repeat'(first|exact trivial|refine And.intro ?_ ?_))|skip
 all_goals(try rfl)
 all_goals(try simp only[bK,BI,fU]at *)
 all_goals first
  |omega|rfl|exact ug _ _|(obtain⟨h1,h2,h3,h4,h5⟩:=hx;have ga:=hp.2.2.1.getD x.2.2;have gb:=hp.2.2.2.1.getD x.2.2;have gz:=getD_none (l:=b) (k:=x.2.2) (by omega);(try simp(disch:=omega) only[dQ]at *);(conv=>whnf);exact⟨(x.1.set x.2.2 ((a.getD x.2.2 0+1000000000-x.2.1-b.getD x.2.2 0)%1000000000),1-(a.getD x.2.2 0+1000000000-x.2.1-b.getD x.2.2 0)/1000000000,x.2.2+1),⟨⟨rfl,rfl,iS (by(try simp(disch:=omega) only[dQ,wu64,bW,lM,lK])<;>omega),rfl,rfl,aW (by omega),trivial⟩,⟨yZ rfl (by(try simp(disch:=omega) only[dQ,wu64,bW,lM,lK])<;>omega),trivial⟩,⟨by show x.2.2+1≤_;omega,by simp only[JB];exact h2,eU h3 (sK _ (by decide)),by show 1-_/1000000000≤1;omega,qX (by omega) h5 (by dsimp only;omega)⟩,by show _-(x.2.2+1)<_-x.2.2;omega⟩⟩)|(obtain⟨h1,h2,h3,h4,h5⟩:=hx;have ga:=hp.2.2.1.getD x.2.2;have gb:=hp.2.2.2.1.getD x.2.2;(try simp(disch:=omega) only[dQ]at *);(conv=>whnf);exact⟨(x.1.set x.2.2 ((a.getD x.2.2 0+1000000000-x.2.1-b.getD x.2.2 0)%1000000000),1-(a.getD x.2.2 0+1000000000-x.2.1-b.getD x.2.2 0)/1000000000,x.2.2+1),⟨⟨rfl,rfl,iS (by(try simp(disch:=omega) only[dQ,wu64,bW,lM,lK])<;>omega),rfl,rfl,aW (by omega),trivial⟩,⟨yZ rfl (by(try simp(disch:=omega) only[dQ,wu64,bW,lM,lK])<;>omega),trivial⟩,⟨by show x.2.2+1≤_;omega,by simp only[JB];exact h2,eU h3 (sK _ (by decide)),by show 1-_/1000000000≤1;omega,qX (by omega) h5 (by dsimp only;omega)⟩,by show _-(x.2.2+1)<_-x.2.2;omega⟩⟩)|exact⟨by omega,by simp,jy _,by omega,by simp[val]⟩|exact adz hx.2.2.1 hx.2.1 (FB hx.2.2.1 hp.2.2.1 hx.2.1 (by omega) hp.2.2.2.2.1 hp.2.2.2.2.2 hx.2.2.2.2)⟩
instance aiK(a b:List Nat):DenI Tryz.prog 235 [.c (lmc a),.c (lmc b)] (a.length≤1000000000000∧b.length≤1000000000000∧Lb a∧Lb b) (.c (lmc (pad (max a.length b.length+1) (val a+val b)))):=⟨λhp=>by
 refine den_len (by kernel_rfl) (λhl=>?_);simp only[lenA,lenC,cellsOf,bK,and_true,true_and]at hl
 all_goals refine amV Tryz.func235 rfl ?_
 all_goals(repeat'((try(conv=>whnf));first
  |(with_reducible refine onB_d (λ_=>?_) (λ_=>?_))|refine mks_i ?_ ?_))
 all_goals(try refine Pr.mk ?_)
 all_goals(try simp(disch:=omega) only[bK,vY,fU,BI,bW,dQ,wu64,EM,EH,Zw,lM,lK]at *)
 all_goals first
  |(have hh:b.length≤a.length:=(by omega);(conv=>whnf);refine Sw.Loop.inv (α:=List Nat×Nat×Nat) (λx=>[(1,.c (lmc b)),(5,.gs 19 x.1.length),(6,.int .u32 (x.2.1:Nat)),(20,.c (lmc a)),(21,.int .i64 a.length),(22,.int .i64 (x.2.2:Nat))]) (λx=>[(19,.grow 154 1 (x.1.map λx=>[.v (u32 x)]))]) (λx=>x.2.2≤a.length∧x.1.length=x.2.2∧Lb x.1∧x.2.1≤1∧val x.1+1000000000^x.2.2*x.2.1=val (a.take x.2.2)+val (b.take x.2.2)) (λx=>a.length-x.2.2) ([],0,0) ?_ ?_ ?_ (λx hx=>?_))|(have hh:a.length≤b.length:=(by omega);(conv=>whnf);refine Sw.Loop.inv (α:=List Nat×Nat×Nat) (λx=>[(1,.c (lmc a)),(5,.gs 19 x.1.length),(6,.int .u32 (x.2.1:Nat)),(20,.c (lmc b)),(21,.int .i64 b.length),(22,.int .i64 (x.2.2:Nat))]) (λx=>[(19,.grow 154 1 (x.1.map λx=>[.v (u32 x)]))]) (λx=>x.2.2≤b.length∧x.1.length=x.2.2∧Lb x.1∧x.2.1≤1∧val x.1+1000000000^x.2.2*x.2.1=val (b.take x.2.2)+val (a.take x.2.2)) (λx=>b.length-x.2.2) ([],0,0) ?_ ?_ ?_ (λx hx=>?_))|skip
 all_goals(repeat'((try(conv=>whnf));first
  |(with_reducible refine onB_d (λ_=>?_) (λ_=>?_))|refine obl_i ?_ ?_|(with_reducible refine elem_u ?_ ?_)|refine Ends.mk ?_))
 all_goals(try refine Pr.mk ?_)
 all_goals first|(show SubE _ _;repeat'(first|exact trivial|refine And.intro ?_ ?_))|(show SubB _ _;repeat'(first|exact trivial|refine And.intro ?_ ?_))|skip
 all_goals(try rfl)
 all_goals(try simp only[bK,BI,fU]at *)
 all_goals first
  |omega|rfl|(obtain⟨h1,h2,h3,h4,h5⟩:=hx;have ga:=hp.2.2.1.getD x.2.2;have gb:=hp.2.2.2.getD x.2.2;have gz:=getD_none (l:=b) (k:=x.2.2) (by omega);(try simp(disch:=omega) only[dQ]at *);(conv=>whnf);exact⟨(x.1++[(x.2.1+a.getD x.2.2 0+b.getD x.2.2 0)%1000000000],(x.2.1+a.getD x.2.2 0+b.getD x.2.2 0)/1000000000,x.2.2+1),⟨⟨rfl,sZ (by simp),iS (by(try simp(disch:=omega) only[dQ,wu64,bW,lM,lK])<;>omega),rfl,rfl,aW (by omega),trivial⟩,⟨MW (by(try simp(disch:=omega) only[dQ,wu64,bW,lM,lK])<;>omega),trivial⟩,⟨by show x.2.2+1≤_;omega,by simp only[gY,iH,jf];omega,rV h3 (sK _ (by decide)),by show _/1000000000≤1;omega,vM h2 h5 rfl rfl rfl⟩,by show _-(x.2.2+1)<_-x.2.2;omega⟩⟩)|(obtain⟨h1,h2,h3,h4,h5⟩:=hx;have ga:=hp.2.2.1.getD x.2.2;have gb:=hp.2.2.2.getD x.2.2;(try simp(disch:=omega) only[dQ]at *);(conv=>whnf);exact⟨(x.1++[(x.2.1+a.getD x.2.2 0+b.getD x.2.2 0)%1000000000],(x.2.1+a.getD x.2.2 0+b.getD x.2.2 0)/1000000000,x.2.2+1),⟨⟨rfl,sZ (by simp),iS (by(try simp(disch:=omega) only[dQ,wu64,bW,lM,lK])<;>omega),rfl,rfl,aW (by omega),trivial⟩,⟨MW (by(try simp(disch:=omega) only[dQ,wu64,bW,lM,lK])<;>omega),trivial⟩,⟨by show x.2.2+1≤_;omega,by simp only[gY,iH,jf];omega,rV h3 (sK _ (by decide)),by show _/1000000000≤1;omega,vM h2 h5 rfl rfl rfl⟩,by show _-(x.2.2+1)<_-x.2.2;omega⟩⟩)|(obtain⟨h1,h2,h3,h4,h5⟩:=hx;have ga:=hp.2.2.2.getD x.2.2;have gb:=hp.2.2.1.getD x.2.2;have gz:=getD_none (l:=a) (k:=x.2.2) (by omega);(try simp(disch:=omega) only[dQ]at *);(conv=>whnf);exact⟨(x.1++[(x.2.1+b.getD x.2.2 0+a.getD x.2.2 0)%1000000000],(x.2.1+b.getD x.2.2 0+a.getD x.2.2 0)/1000000000,x.2.2+1),⟨⟨rfl,sZ (by simp),iS (by(try simp(disch:=omega) only[dQ,wu64,bW,lM,lK])<;>omega),rfl,rfl,aW (by omega),trivial⟩,⟨MW (by(try simp(disch:=omega) only[dQ,wu64,bW,lM,lK])<;>omega),trivial⟩,⟨by show x.2.2+1≤_;omega,by simp only[gY,iH,jf];omega,rV h3 (sK _ (by decide)),by show _/1000000000≤1;omega,vM h2 h5 rfl rfl rfl⟩,by show _-(x.2.2+1)<_-x.2.2;omega⟩⟩)|(obtain⟨h1,h2,h3,h4,h5⟩:=hx;have ga:=hp.2.2.2.getD x.2.2;have gb:=hp.2.2.1.getD x.2.2;(try simp(disch:=omega) only[dQ]at *);(conv=>whnf);exact⟨(x.1++[(x.2.1+b.getD x.2.2 0+a.getD x.2.2 0)%1000000000],(x.2.1+b.getD x.2.2 0+a.getD x.2.2 0)/1000000000,x.2.2+1),⟨⟨rfl,sZ (by simp),iS (by(try simp(disch:=omega) only[dQ,wu64,bW,lM,lK])<;>omega),rfl,rfl,aW (by omega),trivial⟩,⟨MW (by(try simp(disch:=omega) only[dQ,wu64,bW,lM,lK])<;>omega),trivial⟩,⟨by show x.2.2+1≤_;omega,by simp only[gY,iH,jf];omega,rV h3 (sK _ (by decide)),by show _/1000000000≤1;omega,vM h2 h5 rfl rfl rfl⟩,by show _-(x.2.2+1)<_-x.2.2;omega⟩⟩)|exact⟨by omega,rfl,Lb.nil,by omega,by simp[val]⟩|(simp only[bK,gY,iH,jf];omega)|(refine ahh hx.2.2.1 (by omega) (by omega) ?_;have h5:=hx.2.2.2.2;rw[bP (l:=a) (by omega),bP (l:=b) (by omega)]at h5;rw[hx.2.1];omega)⟩
end Go.Proofs.YtmniihkenijjpaaGreatDoor
namespace Go.Sw
open Go
theorem YU{n:Int}(h:0≤n)(h2:n≤9223372036854775807):IntKind.u64.wrap n=((n.natAbs:Nat):Int):=by rw[IntKind.wrap_u64];omega
theorem XJ{n:Int}(h:n<0)(h2 : -9223372036854775808≤n):IntKind.u64.wrap (0-IntKind.u64.wrap n)=((n.natAbs:Nat):Int):=by rw[IntKind.wrap_u64,IntKind.wrap_u64];omega
theorem QH{x y:Int}(h:x=y):packA [Z x]=Z y:=by rw[h];rfl
theorem Yw{a b qs rs:List Nat}(h4:Lb qs)(h5:Lb rs)(h6:val a=val b*val qs+val rs)(h7:val rs<val b)(h8:qs.length=Zx a b)(h9:rs.length=Zb a b):qs=pad (Zx a b) (val a/val b)∧rs=pad (Zb a b) (val a%val b):=by
 have h1:val a/val b=val qs:=by rw[h6,EI,Nat.add_comm,Nat.add_mul_div_right _ _ (by omega),Nat.div_eq_of_lt h7,xu]
 have h2:val a%val b=val rs:=by rw[h6,Nat.mul_add_mod,Qw h7]
 rw[h1,h2,←h8,←h9];exact⟨BZ _ h4,BZ _ h5⟩
section
variable {a b:Int}
theorem acE(h:(((lim a.natAbs).length:Nat):Int)=0):packA [AV.c (Cell.v (.int .i64 0))]=AV.int .i64 (jD a):=iE (by have:=dM (n:=a.natAbs);unfold jD;repeat' split;all_goals omega)
theorem ace(h:a<0):packA [AV.c (Cell.v (.int .i64 (-1)))]=AV.int .i64 (jD a):=iE (by unfold jD;repeat' split;all_goals omega)
theorem acM(h:¬a<0)(h2:(((lim a.natAbs).length:Nat):Int)>0):packA [AV.c (Cell.v (.int .i64 1))]=AV.int .i64 (jD a):=iE (by have:=dM (n:=a.natAbs);unfold jD;repeat' split;all_goals omega)
theorem acB(h:(decide (a<0) != decide (b<0))=true)(ha:a<0):packA [AV.c (Cell.v (.int .i64 (-1)))]=AV.int .i64 (jS a b):=iE (by have hb:¬b<0:=(λhb=>by simp[ha,hb]at h);rw[aaY (by omega)])
theorem acZ(h:(decide (a<0) != decide (b<0))=true)(ha:¬a<0):packA [AV.c (Cell.v (.int .i64 1))]=AV.int .i64 (jS a b):=iE (by have hb:b<0:=Decidable.byContradiction (λhb=>by simp[ha,hb]at h);rw[ab2 (by omega)])
theorem acr(h:(decide (a<0) != decide (b<0))=false)(ha:a<0):packA [AV.c (Cell.v (.int .i64 (fD (val (lim b.natAbs)) (val (lim a.natAbs)))))]=AV.int .i64 (jS a b) :=
 iE (by rw[aF,aF,Xl ha (Decidable.byContradiction λhb=>by simp[ha,hb]at h)])
theorem acP(h:(decide (a<0) != decide (b<0))=false)(ha:¬a<0):packA [AV.c (Cell.v (.int .i64 (fD (val (lim a.natAbs)) (val (lim b.natAbs)))))]=AV.int .i64 (jS a b) :=
 iE (by rw[aF,aF,YD ha (λhb=>by simp[ha,hb]at h)])
theorem Yf(h:(decide (a<0) == decide (b<0))=true):decide (a<0)=decide (b<0):=by simpa using h
theorem Ko(h:(decide (a<0) == decide (b<0))=false):¬decide (a<0)=decide (b<0):=by simpa using h
theorem ae7(h:(decide (a<0) == decide (b<0))=true):packA [AV.c (Cell.v (.bool (decide (fD (val (lim a.natAbs)) (val (lim b.natAbs))=0))))]=AV.bool (decide (a=b)) :=
 bE (by have h:=Yf h;rw[decide_eq_decide]at h;rw[aF,aF,decide_eq_decide,Y5];omega)
theorem aeC(h:(decide (a<0) == decide (b<0))=false):packA [AV.c (Cell.v (.bool false))]=AV.bool (decide (a=b)) :=
 bE (by have h:=Ko h;rw[decide_eq_decide]at h;symm;rw[decide_eq_false_iff_not];omega)
theorem ab9:packA [Z (eH (!decide (a<0)) (val (lim a.natAbs)))]=Z (-a):=QH (by rw[aF];exact V4 a)
theorem agI:packA [Z (eH (decide (a<0) != decide (b<0)) (val (lim (val (lim a.natAbs)*val (lim b.natAbs)))))]=Z (a*b):=QH (by rw[aF,aF,aF];exact Me a b)
theorem acy:packA [Z (eH (decide (a<0) != decide (b<0)) (val (pad ((lim a.natAbs).length+(lim b.natAbs).length) (val (lim a.natAbs)*val (lim b.natAbs)))))]=Z (a*b):=QH (by
 rw[lY _ _ (by rw[Nat.pow_add];exact Nat.mul_lt_mul'' (gG _ (aX _)) (gG _ (aX _))),aF,aF];exact Me a b)
theorem agq(h:(decide (a<0) == decide (b<0))=true):packA [Z (eH (decide (a<0)) (val (lim (val (lim a.natAbs)+val (lim b.natAbs)))))]=Z (a+b):=QH (by rw[aF,aF,aF];exact Nj (Yf h))
theorem ahd(h:(decide (a<0) == decide (b<0))=false)(h2:fD (val (lim a.natAbs)) (val (lim b.natAbs))≥0):packA [Z (eH (decide (a<0)) (val (lim (val (lim a.natAbs)-val (lim b.natAbs)))))]=Z (a+b):=QH (by
 rw[aF,aF]at h2 ⊢;rw[aF];exact yg (Ko h) (qw.1 h2))
theorem agD(h:(decide (a<0) == decide (b<0))=false)(h2:¬fD (val (lim a.natAbs)) (val (lim b.natAbs))≥0):packA [Z (eH (decide (b<0)) (val (lim (val (lim b.natAbs)-val (lim a.natAbs)))))]=Z (a+b):=QH (by
 rw[aF,aF]at h2 ⊢;rw[aF,Int.add_comm];exact yg (λe=>Ko h e.symm) (by have:=mt qw.2 h2;omega))
theorem acR(h:(decide (a<0) == decide (b<0))=true):packA [Z (eH (decide (a<0)) (val (pad (max (lim a.natAbs).length (lim b.natAbs).length+1) (val (lim a.natAbs)+val (lim b.natAbs)))))]=Z (a+b):=QH (by
 have h1:=gG _ (aX a.natAbs);have h2:=gG _ (aX b.natAbs);have h3:=Jw (n:=1000000000) (by decide) (Nat.le_max_left (lim a.natAbs).length (lim b.natAbs).length);have h4:=Jw (n:=1000000000) (by decide) (Nat.le_max_right (lim a.natAbs).length (lim b.natAbs).length)
 rw[lY _ _ (by rw[Ar];omega),aF,aF];exact Nj (Yf h))
theorem acJ(h:(decide (a<0) == decide (b<0))=false)(h2:¬fD (val (lim a.natAbs)) (val (lim b.natAbs))<0):packA [Z (eH (decide (a<0)) (val (pad (lim a.natAbs).length (val (lim a.natAbs)-val (lim b.natAbs)))))]=Z (a+b):=QH (by
 have h1:=gG _ (aX a.natAbs);rw[lY _ _ (by omega)]
 rw[aF,aF]at h2 ⊢;exact yg (Ko h) (qw.1 (by omega)))
theorem acQ(h:(decide (a<0) == decide (b<0))=false)(h2:fD (val (lim a.natAbs)) (val (lim b.natAbs))<0):packA [Z (eH (decide (b<0)) (val (pad (lim b.natAbs).length (val (lim b.natAbs)-val (lim a.natAbs)))))]=Z (a+b):=QH (by
 have h1:=gG _ (aX b.natAbs);rw[lY _ _ (by omega)]
 rw[aF,aF]at h2 ⊢;rw[Int.add_comm];exact yg (λe=>Ko h e.symm) (by have:=uo.1 h2;omega))
theorem Ew(h1:sz a≤1000000000)(h2:sz b≤1000000000)(h:b.natAbs≤a.natAbs):(lim a.natAbs).length≤1000000000000∧(lim b.natAbs).length≤1000000000000∧Lb (lim a.natAbs)∧Lb (lim b.natAbs)∧(lim b.natAbs).length≤(lim a.natAbs).length∧val (lim b.natAbs)≤val (lim a.natAbs):=by
 unfold sz at h1 h2;exact⟨by omega,by omega,aX _,aX _,iq h,by rw[aF,aF];exact h⟩
theorem Iz(h1:sz a≤1000000000)(h2:sz b≤1000000000):(lim a.natAbs).length≤1000000000000∧(lim b.natAbs).length≤1000000000000∧Lb (lim a.natAbs)∧Lb (lim b.natAbs):=by
 unfold sz at h1 h2;exact⟨by omega,by omega,aX _,aX _⟩
theorem ac8(h:¬b<0):AV.agg [Cell.v (.bool (decide ((((lim b.natAbs).map λx=>[Cell.v (u32 x)]).length:Int)>0))),zl b]=Z (-b):=by
 show _=AV.agg [zs (-b),zl (-b)];unfold zs zl;have:=dM (n:=b.natAbs);rw[Int.natAbs_neg,bK,show decide ((((lim b.natAbs).length:Nat):Int)>0)=decide (-b<0) by rw[decide_eq_decide];omega]
theorem adV(h:b<0):AV.agg [Cell.v (.bool false),zl b]=Z (-b):=by
 show _=AV.agg [zs (-b),zl (-b)];unfold zs zl;rw[Int.natAbs_neg,decide_eq_false (show¬-b<0 by omega)]
theorem agK(h:jS a (-9223372036854775808)<0):packA [AV.c (Cell.v (.int .i64 0)),AV.c (Cell.v (.bool false))]=AV.tup [.int .i64 (if -9223372036854775808≤a∧a≤9223372036854775807 then a else 0),.bool (decide (-9223372036854775808≤a∧a≤9223372036854775807))]:=by
 have:=Dp.1 h;rw[if_neg (by omega),decide_eq_false (by omega)];rfl
theorem agP(h:jS a 9223372036854775807>0):packA [AV.c (Cell.v (.int .i64 0)),AV.c (Cell.v (.bool false))]=AV.tup [.int .i64 (if -9223372036854775808≤a∧a≤9223372036854775807 then a else 0),.bool (decide (-9223372036854775808≤a∧a≤9223372036854775807))]:=by
 have:=CO.1 h;rw[if_neg (by omega),decide_eq_false (by omega)];rfl
theorem agC(h:¬jS a (-9223372036854775808)<0)(h2:¬jS a 9223372036854775807>0):-9223372036854775808≤a∧a≤9223372036854775807:=by
 have h3:=mt Dp.2 h;have h4:=mt CO.2 h2;omega
theorem afR{x:Int}(hb : -9223372036854775808≤a∧a≤9223372036854775807)(hx:x=a):packA [AV.c (Cell.v (.int .i64 x)),AV.c (Cell.v (.bool true))]=AV.tup [.int .i64 (if -9223372036854775808≤a∧a≤9223372036854775807 then a else 0),.bool (decide (-9223372036854775808≤a∧a≤9223372036854775807))]:=by
 rw[if_pos hb,decide_eq_true hb,hx];rfl
theorem agt(hb : -9223372036854775808≤a∧a≤9223372036854775807):(lim a.natAbs).length≤1000000000000∧Lb (lim a.natAbs)∧val (lim a.natAbs)<18446744073709551616:=by
 have:=iL hb.1 hb.2;unfold sz at this;exact⟨by omega,aX _,by rw[aF];omega⟩
theorem YS(h1:sz a≤1000000000)(h2:sz b≤1000000000)(h:¬b.natAbs=0):(lim a.natAbs).length≤100000000000∧(lim b.natAbs).length≤100000000000∧Lb (lim a.natAbs)∧Lb (lim b.natAbs)∧0<b.natAbs:=by
 unfold sz at h1 h2;exact⟨by omega,by omega,aX _,aX _,by omega⟩
theorem dqI(h:¬b.natAbs=0):val (pad (Zx (lim a.natAbs) (lim b.natAbs)) (a.natAbs/b.natAbs))=a.natAbs/b.natAbs:=by
 have:=adJ (aX a.natAbs) (aX b.natAbs) (by rw[aF];omega)
 rwa [aF,aF]at this
theorem Iw(h:¬b.natAbs=0):val (pad (Zb (lim a.natAbs) (lim b.natAbs)) (a.natAbs%b.natAbs))=a.natAbs%b.natAbs:=by
 have:=adR (aX a.natAbs) (aX b.natAbs) (by rw[aF];omega)
 rwa [aF,aF]at this
theorem aaW{r:Nat}(h0:0<r)(h:((decide (a<0)&&decide (0<r)) != decide (b<0))=true):(decide (a<0) != decide (b<0))=true:=by rwa [decide_eq_true h0,Bool.and_true]at h
theorem aaB{r:Nat}(h0:0<r)(h:((decide (a<0)&&decide (0<r)) != decide (b<0))=false):¬(decide (a<0) != decide (b<0))=true:=by rw[decide_eq_true h0,Bool.and_true]at h;rw[h];decide
theorem akC(h:sz a≤1000000000)(s:Bool):sz (eH s (a.natAbs/b.natAbs))≤1000000000:=dh (BH _ _ a (QV _ _)) h
theorem ajU(h:sz a≤1000000000)(s:Bool):sz (eH s (a.natAbs%b.natAbs))≤1000000000:=dh (BH _ _ a (Nat.mod_le _ _)) h
theorem akk:sz 1≤1000000000:=dh (iL (by decide) (by decide)) (by decide)
end
section
variable {a b:Int} {m n:Nat}
theorem aiR(h1:(lim m).length≤1000000000)(h2:(lim n).length≤1000000000)(h:(((lim n).length:Nat):Int)>0):(lim m).length≤1000000000∧(lim n).length≤1000000000∧CanL (lim m)∧CanL (lim n)∧0<val (lim n):=by
 have:=dM (n:=n);exact⟨h1,h2,CanL.lim _,CanL.lim _,by rw[aF];omega⟩
theorem adN(h:¬(((lim m).length:Nat):Int)>2):(lim m).length≤1000000000000∧Lb (lim m)∧val (lim m)<18446744073709551616:=by
 have:=pq (n:=m) (by omega);exact⟨by omega,aX _,by rw[aF];omega⟩
theorem ajT:some (AV.c (lmc (lim (val (lim m)%val (lim n)))))=some (AV.c (lmc (lim (m%n)))):=by rw[aF,aF]
theorem ZW{x:Nat}(h0:n=0)(hg:Nat.gcd m n=Nat.gcd a.natAbs b.natAbs)(hx:x=m):packA [Z (eH false x)]=Z ((Nat.gcd a.natAbs b.natAbs:Nat):Int):=QH (by
 subst h0 hx;rw[←hg,Nat.gcd_zero_right];rfl)
theorem gv:some (AV.int .u64 ((val (lim m):Nat):Int))=some (AV.int .u64 ((m:Nat):Int)):=by rw[aF]
theorem glt(h:¬(((lim m).length:Nat):Int)>2):m<1000000000000000000:=pq (by omega)
theorem afF(u v:Nat):(u:Int).tmod (v:Int)=((u%v:Nat):Int):=by rw[Int.tmod_eq_emod_of_nonneg (by omega)];rfl
theorem LJ{u v:Nat}:some (AV.int .u64 ((u:Int).tmod (v:Int)))=some (AV.int .u64 ((u%v:Nat):Int)):=by rw[afF]
theorem WZ(x y:Int)(h:x=y):some (Bk.var [zs x,zl x])=some (Bk.var [zs y,zl y]):=by rw[h]
theorem wif(h:sz ((m:Nat):Int)≤2):some (AV.int .u64 ((if sz ((m:Nat):Int)≤2 then((m:Nat):Int).natAbs else 0:Nat):Int))=some (AV.int .u64 ((m:Nat):Int)):=by rw[if_pos h];rfl
theorem akE(h1:sz ((m:Nat):Int)≤1000000000)(h2:sz ((n:Nat):Int)≤1000000000)(h:(((lim ((n:Nat):Int).natAbs).length:Nat):Int)>0):(lim ((m:Nat):Int).natAbs).length≤100000000000∧(lim ((n:Nat):Int).natAbs).length≤100000000000∧Lb (lim ((m:Nat):Int).natAbs)∧Lb (lim ((n:Nat):Int).natAbs)∧0<val (lim ((n:Nat):Int).natAbs):=by
 have:=dM (n:=((n:Nat):Int).natAbs);have k:=YS h1 h2 (by omega);rw[aF];exact k
theorem gst(h:(((lim ((n:Nat):Int).natAbs).length:Nat):Int)>0):eH false (val (pad (Zb (lim ((m:Nat):Int).natAbs) (lim ((n:Nat):Int).natAbs)) (val (lim ((m:Nat):Int).natAbs)%val (lim ((n:Nat):Int).natAbs))))=((m%n:Nat):Int):=by
 have:=dM (n:=((n:Nat):Int).natAbs);rw[aF,aF,Iw (by omega)];rfl
theorem ajp(h:(((lim ((n:Nat):Int).natAbs).length:Nat):Int)>0):0<n:=by
 have h2:=dM (n:=((n:Nat):Int).natAbs);rw[Nu]at h2 h;omega
theorem afJ(h:¬(((lim ((n:Nat):Int).natAbs).length:Nat):Int)>0):n=0:=by
 have h2:=dM (n:=((n:Nat):Int).natAbs);rw[Nu]at h2 h;omega
end
end Go.Sw
namespace Go.Proofs.YtmniihkenijjpaaGreatDoor
open Go Go.RowKit Go.Sw
set_option maxRecDepth 100000
set_option maxHeartbeats 8000000
instance ah2(n:Int):DenI Tryz.prog 80 [.int .i64 n] (-9223372036854775808≤n∧n≤9223372036854775807) (Z n):=⟨λhp=>by
 refine amV Tryz.func80 rfl ?_
 repeat'((try(conv=>whnf));first
  |(with_reducible refine onB_d (λ_=>?_) (λ_=>?_)))
 all_goals(try((conv=>whnf);simp(disch:=omega) only[YU,XJ]))
 all_goals(repeat'((try(conv=>whnf));first
  |refine call_i ?_ ?_|refine Ends.mk ?_))
 all_goals(try refine Pr.mk ?_)
 all_goals first
  |exact aX _|omega|(refine QH ?_;rw[aF];first|exact Ws (by omega)|exact Yu (by omega))⟩
instance ah9(n:Int):DenI Tryz.prog 199 [.int .i64 n] (-9223372036854775808≤n∧n≤9223372036854775807) (Z n):=⟨λhp=>by
 refine amV Tryz.func199 rfl ?_
 repeat'((try(conv=>whnf));first
  |(with_reducible refine onB_d (λ_=>?_) (λ_=>?_)))
 all_goals(try((conv=>whnf);simp(disch:=omega) only[YU,XJ]))
 all_goals(repeat'((try(conv=>whnf));first
  |refine call_i ?_ ?_|refine Ends.mk ?_))
 all_goals(try refine Pr.mk ?_)
 all_goals first
  |exact ni _ _|omega|(refine QH ?_;rw[lY _ _ (by omega)];first|exact Ws (by omega)|exact Yu (by omega)|exact BU n)⟩
instance aia(a:Int):DenI Tryz.prog 65 [Z a] (True) (.int .i64 (jD a)):=⟨λhp=>by
 refine amV Tryz.func65 rfl ?_
 repeat'((try(conv=>whnf));first
  |refine call_0 ?_|refine call_i ?_ ?_|(with_reducible first|refine onB_t ?_|refine onB_f ?_|refine onB_d (λ_=>?_) (λ_=>?_)|refine onB_n (λ_=>?_) (λ_=>?_))|refine OnB.mk (λ_=>?_) (λ_=>?_)|refine obl_i ?_ ?_|refine Drw.mk (by kernel_rfl) ?_|refine mks_i ?_ ?_|refine slp_i ?_ ?_|(with_reducible first|refine elem_u ?_ ?_|refine elem_0 ?_|refine elem_1 ?_)|refine Ends.mk ?_)
 all_goals(try refine Pr.mk ?_)
 all_goals(try simp only[bK]at *)
 all_goals first
  |with_reducible exact acE (by omega)|with_reducible exact ace (by omega)|with_reducible exact acM (by omega) (by omega)|skip⟩
instance ah0(a:Int):DenI Tryz.prog 90 [Z a] (True) (.int .i64 (jD a)):=⟨λhp=>by
 refine amV Tryz.func90 rfl ?_
 repeat'((try(conv=>whnf));first
  |(with_reducible refine onB_d (λ_=>?_) (λ_=>?_))|refine Ends.mk ?_)
 all_goals(try simp only[bK]at *)
 all_goals first
  |with_reducible exact acE (by omega)|with_reducible exact ace (by omega)|with_reducible exact acM (by omega) (by omega)⟩
instance ajr(a b:Int):DenI Tryz.prog 70 [Z a,Z b] (True) (.int .i64 (jS a b)):=⟨λhp=>by
 refine amV Tryz.func70 rfl ?_
 repeat'((try(conv=>whnf));first
  |refine call_0 ?_|refine call_i ?_ ?_|(with_reducible first|refine onB_t ?_|refine onB_f ?_|refine onB_d (λ_=>?_) (λ_=>?_)|refine onB_n (λ_=>?_) (λ_=>?_))|refine OnB.mk (λ_=>?_) (λ_=>?_)|refine obl_i ?_ ?_|refine Drw.mk (by kernel_rfl) ?_|refine mks_i ?_ ?_|refine slp_i ?_ ?_|(with_reducible first|refine elem_u ?_ ?_|refine elem_0 ?_|refine elem_1 ?_)|refine Ends.mk ?_)
 all_goals(try refine Pr.mk ?_)
 all_goals first
  |with_reducible exact⟨CanL.lim _,CanL.lim _⟩|with_reducible exact⟨aX _,aX _⟩|with_reducible exact aX _|with_reducible exact ni _ _|with_reducible exact acB (by assumption) (by assumption)|with_reducible exact acZ (by assumption) (by assumption)|with_reducible exact acr (by assumption) (by assumption)|with_reducible exact acP (by assumption) (by assumption)|skip⟩
instance aiq(a b:Int):DenI Tryz.prog 157 [Z a,Z b] (True) (.int .i64 (jS a b)):=⟨λhp=>by
 refine amV Tryz.func157 rfl ?_
 repeat'((try(conv=>whnf));first
  |refine call_i ?_ ?_|(with_reducible refine onB_d (λ_=>?_) (λ_=>?_))|refine OnB.mk (λ_=>?_) (λ_=>?_)|refine Ends.mk ?_)
 all_goals(try refine Pr.mk ?_)
 all_goals first
  |with_reducible exact⟨aX _,aX _⟩|with_reducible exact acB (by assumption) (by assumption)|with_reducible exact acZ (by assumption) (by assumption)|with_reducible exact acr (by assumption) (by assumption)|with_reducible exact acP (by assumption) (by assumption)⟩
instance aie(a b:Int):DenI Tryz.prog 111 [Z a,Z b] (True) (.bool (decide (a=b))):=⟨λhp=>by
 refine amV Tryz.func111 rfl ?_
 repeat'((try(conv=>whnf));first
  |refine call_0 ?_|refine call_i ?_ ?_|(with_reducible first|refine onB_t ?_|refine onB_f ?_|refine onB_d (λ_=>?_) (λ_=>?_)|refine onB_n (λ_=>?_) (λ_=>?_))|refine OnB.mk (λ_=>?_) (λ_=>?_)|refine obl_i ?_ ?_|refine Drw.mk (by kernel_rfl) ?_|refine mks_i ?_ ?_|refine slp_i ?_ ?_|(with_reducible first|refine elem_u ?_ ?_|refine elem_0 ?_|refine elem_1 ?_)|refine Ends.mk ?_)
 all_goals(try refine Pr.mk ?_)
 all_goals first
  |with_reducible exact⟨CanL.lim _,CanL.lim _⟩|with_reducible exact⟨aX _,aX _⟩|with_reducible exact aX _|with_reducible exact ni _ _|with_reducible exact ae7 (by assumption)|with_reducible exact aeC (by assumption)|skip⟩
instance ajS(a:Int):DenI Tryz.prog 140 [Z a] (sz a≤1000000000) (Z (-a)):=⟨λhp=>by
 refine amV Tryz.func140 rfl ?_
 repeat'((try(conv=>whnf));first
  |refine call_0 ?_|refine call_i ?_ ?_|(with_reducible first|refine onB_t ?_|refine onB_f ?_|refine onB_d (λ_=>?_) (λ_=>?_)|refine onB_n (λ_=>?_) (λ_=>?_))|refine OnB.mk (λ_=>?_) (λ_=>?_)|refine obl_i ?_ ?_|refine Drw.mk (by kernel_rfl) ?_|refine mks_i ?_ ?_|refine slp_i ?_ ?_|(with_reducible first|refine elem_u ?_ ?_|refine elem_0 ?_|refine elem_1 ?_)|refine Ends.mk ?_)
 all_goals(try refine Pr.mk ?_)
 all_goals(try simp only[bK]at *)
 all_goals first
  |with_reducible exact⟨CanL.lim _,CanL.lim _⟩|with_reducible exact⟨aX _,aX _⟩|with_reducible exact aX _|with_reducible exact ni _ _|with_reducible exact ab9|(unfold sz at hp;omega)|skip⟩
instance aiy(a:Int):DenI Tryz.prog 155 [Z a] (sz a≤1000000000) (Z (-a)):=⟨λhp=>by
 refine amV Tryz.func155 rfl ?_
 repeat'((try(conv=>whnf));first
  |refine call_i ?_ ?_|refine obl_i ?_ ?_|refine Drw.mk (by kernel_rfl) ?_|refine Ends.mk ?_)
 all_goals(try refine Pr.mk ?_)
 all_goals(try simp only[bK]at *)
 all_goals first
  |with_reducible exact aX _|with_reducible exact ab9|(unfold sz at hp;omega)⟩
instance aky(a b:Int):DenI Tryz.prog 71 [Z a,Z b] (sz a≤1000000000∧sz b≤1000000000) (Z (a*b)):=⟨λhp=>by
 refine amV Tryz.func71 rfl ?_
 repeat'((try(conv=>whnf));first
  |refine call_0 ?_|refine call_i ?_ ?_|(with_reducible first|refine onB_t ?_|refine onB_f ?_|refine onB_d (λ_=>?_) (λ_=>?_)|refine onB_n (λ_=>?_) (λ_=>?_))|refine OnB.mk (λ_=>?_) (λ_=>?_)|refine obl_i ?_ ?_|refine Drw.mk (by kernel_rfl) ?_|refine mks_i ?_ ?_|refine slp_i ?_ ?_|(with_reducible first|refine elem_u ?_ ?_|refine elem_0 ?_|refine elem_1 ?_)|refine Ends.mk ?_)
 all_goals(try refine Pr.mk ?_)
 all_goals first
  |with_reducible exact⟨CanL.lim _,CanL.lim _⟩|with_reducible exact⟨aX _,aX _⟩|with_reducible exact aX _|with_reducible exact ni _ _|with_reducible exact Iz hp.1 hp.2|with_reducible exact agI|with_reducible exact acy|skip⟩
instance aj2(a b:Int):DenI Tryz.prog 122 [Z a,Z b] (sz a≤1000000000∧sz b≤1000000000) (Z (a*b)):=⟨λhp=>by
 refine amV Tryz.func122 rfl ?_
 repeat'((try(conv=>whnf));first
  |refine call_i ?_ ?_|refine Drw.mk (by kernel_rfl) ?_|refine Ends.mk ?_)
 all_goals(try refine Pr.mk ?_)
 all_goals first
  |with_reducible exact ni _ _|with_reducible exact Iz hp.1 hp.2|with_reducible exact acy⟩
instance akh(a b:Int):DenI Tryz.prog 109 [Z a,Z b] (sz a≤1000000000∧sz b≤1000000000) (Z (a+b)):=⟨λhp=>by
 refine amV Tryz.func109 rfl ?_
 repeat'((try(conv=>whnf));first
  |refine call_0 ?_|refine call_i ?_ ?_|(with_reducible first|refine onB_t ?_|refine onB_f ?_|refine onB_d (λ_=>?_) (λ_=>?_)|refine onB_n (λ_=>?_) (λ_=>?_))|refine OnB.mk (λ_=>?_) (λ_=>?_)|refine obl_i ?_ ?_|refine Drw.mk (by kernel_rfl) ?_|refine mks_i ?_ ?_|refine slp_i ?_ ?_|(with_reducible first|refine elem_u ?_ ?_|refine elem_0 ?_|refine elem_1 ?_)|refine Ends.mk ?_)
 all_goals(try refine Pr.mk ?_)
 all_goals first
  |with_reducible exact⟨CanL.lim _,CanL.lim _⟩|with_reducible exact⟨aX _,aX _⟩|with_reducible exact aX _|with_reducible exact ni _ _|with_reducible exact Iz hp.1 hp.2|exact Ew hp.1 hp.2 (qw.1 (by rename_i h;rw[aF,aF]at h;omega))|exact Ew hp.2 hp.1 (by rename_i h;rw[aF,aF]at h;have:=mt qw.2 h;omega)|exact Ew hp.2 hp.1 (by rename_i h;rw[aF,aF]at h;have:=uo.1 h;omega)|with_reducible exact agq (by assumption)|with_reducible exact ahd (by assumption) (by assumption)|with_reducible exact agD (by assumption) (by assumption)|with_reducible exact acR (by assumption)|with_reducible exact acJ (by assumption) (by assumption)|with_reducible exact acQ (by assumption) (by assumption)|skip⟩
instance aks(a b:Int):DenI Tryz.prog 201 [Z a,Z b] (sz a≤1000000000∧sz b≤1000000000) (Z (a+b)):=⟨λhp=>by
 refine amV Tryz.func201 rfl ?_
 repeat'((try(conv=>whnf));first
  |refine call_i ?_ ?_|(with_reducible refine onB_d (λ_=>?_) (λ_=>?_))|refine OnB.mk (λ_=>?_) (λ_=>?_)|refine Drw.mk (by kernel_rfl) ?_|refine Ends.mk ?_)
 all_goals(try refine Pr.mk ?_)
 all_goals first
  |with_reducible exact⟨aX _,aX _⟩|with_reducible exact ni _ _|with_reducible exact Iz hp.1 hp.2|exact Ew hp.1 hp.2 (qw.1 (by rename_i h;rw[aF,aF]at h;omega))|exact Ew hp.2 hp.1 (by rename_i h;rw[aF,aF]at h;have:=uo.1 h;omega)|with_reducible exact acR (by assumption)|with_reducible exact acJ (by assumption) (by assumption)|with_reducible exact acQ (by assumption) (by assumption)⟩
end Go.Proofs.YtmniihkenijjpaaGreatDoor
namespace Go.Sw
open Go Go.RowKit
section
variable {P:Program} {f:FuncId} {xs:List AV} {w:World} {X:List Nat} {vs:List Value}
theorem QF{u:Value}{x:AV}(h:RepD w X u x):∀(i:Nat) a b,[u][i]?=some a→[x][i]?=some b→RepD w X a b:=λi a b h1 h2=>by
 cases i with
 |zero=>simp at h1 h2;subst h1 h2;exact h
 |succ i=>simp at h1
theorem J4{u v:Value}{x y:AV}(h:RepD w X u x)(k:RepD w X v y):∀(i:Nat) a b,[u,v][i]?=some a→[x,y][i]?=some b→RepD w X a b:=λi a b h1 h2=>by
 match i with
 |0=>simp at h1 h2;subst h1 h2;exact h
 |1=>simp at h1 h2;subst h1 h2;exact k
 |_+2=>simp at h1
theorem Ym{u:Value}{c:Cell}(h:RepR w X u (.c c)):RepC w X u c:=by
 generalize hv:AV.c c=v at h;cases h with
 |d h =>
  cases h with
  |c h=>injection hv with hv;subst hv;exact h
  |agg h=>cases hv
 |tup _ _=>cases hv
theorem aeo{u x:Value}(h:RepC w X u (.v x)):u=x:=by
 generalize hc:Cell.v x=c at h;cases h with
 |v _ _=>injection hc with hc;exact hc.symm
 |sl=>cases hc
 |p=>cases hc
 |fn=>cases hc
theorem JX{l:List Nat}(h : @Den P (Wld.any P) f xs (.c (lmc l)))(hX:∀m∈X,m<w.heap.size)(hl:vs.length=xs.length)(hr:∀(i:Nat) u v,vs[i]?=some u→xs[i]?=some v→RepD w X u v):Calls P f vs.toArray w (Ret λr w'=>UL w' X r l∧Below w.heap.size w w') :=
 ((@Den.old P (Wld.any P) _ _ _ h (noTup_rep hl hr)).2 w X vs trivial hX hl hr).mono λe w' ⟨u,he,hR,hb⟩=>⟨u,he,UL.of_rep (Ym hR.r),hb⟩
theorem aeg{x:Value}(h : @Den P (Wld.any P) f xs (.c (.v x)))(hX:∀m∈X,m<w.heap.size)(hl:vs.length=xs.length)(hr:∀(i:Nat) u v,vs[i]?=some u→xs[i]?=some v→RepD w X u v):Calls P f vs.toArray w (Ret λr w'=>r=x∧Below w.heap.size w w') :=
 ((@Den.old P (Wld.any P) _ _ _ h (noTup_rep hl hr)).2 w X vs trivial hX hl hr).mono λe w' ⟨u,he,hR,hb⟩=>⟨u,he,aeo (Ym hR.r),hb⟩
theorem aaH{u:Value}{l m:List Nat}(h:RepR w X u (.tup [.c (lmc l),.c (lmc m)])):∃r0 r1,u=.tuple #[r0,r1]∧UL w X r0 l∧UL w X r1 m:=by
 generalize hv:AV.tup [.c (lmc l),.c (lmc m)]=v at h;cases h with
 |d h=>cases h with
  |c h=>cases hv
  |agg h=>cases hv
 |@tup us vs hl h =>
  injection hv with hv
  subst hv
  match us,hl with
  |[r0,r1],_=>exact⟨r0,r1,rfl,(h 0 r0 _ rfl rfl).ul,(h 1 r1 _ rfl rfl).ul⟩
theorem ahz{l m:List Nat}(h : @Den P (Wld.any P) f xs (.tup [.c (lmc l),.c (lmc m)]))(hX:∀m∈X,m<w.heap.size)(hl:vs.length=xs.length)(hr:∀(i:Nat) u v,vs[i]?=some u→xs[i]?=some v→RepD w X u v):Calls P f vs.toArray w (Ret λr w'=>(∃r0 r1,r=.tuple #[r0,r1]∧UL w' X r0 l∧UL w' X r1 m)∧Below w.heap.size w w') :=
 ((@Den.old P (Wld.any P) _ _ _ h (noTup_rep hl hr)).2 w X vs trivial hX hl hr).mono λe w' ⟨u,he,hR,hb⟩=>⟨u,he,aaH hR.r,hb⟩
end
end Go.Sw
namespace Go.Proofs.YtmniihkenijjpaaGreatDoor
open Go Go.RowKit Go.Sw
set_option maxRecDepth 100000
set_option maxHeartbeats 8000000
theorem jY{w:World}{X:List Nat}(hX:∀m∈X,m<w.heap.size){v_l:Value}{l:List Nat}(h_l:UL w X v_l (l)):
 Calls Tryz.prog 230 #[v_l] w (Ret λr w'=>(UL w' X r (ah l))∧Below w.heap.size w w'):=JX ((inferInstance:DenI Tryz.prog 230 [.c (lmc l)] _ _).den trivial) hX rfl (QF (.c h_l.rep))
theorem wQ{w:World}{X:List Nat}(hX:∀m∈X,m<w.heap.size){v_a:Value}{a:List Nat}(h_a:UL w X v_a (a)){v_b:Value}{b:List Nat}(h_b:UL w X v_b (b))(ha:Lb a)(hb:Lb b):
 Calls Tryz.prog 198 #[v_a,v_b] w (Ret λr w'=>(r=.int .i64 (fD (val a) (val b)))∧Below w.heap.size w w'):=aeg ((inferInstance:DenI Tryz.prog 198 [.c (lmc a),.c (lmc b)] _ _).den ⟨ha,hb⟩) hX rfl (J4 (.c h_a.rep) (.c h_b.rep))
theorem oZ{w:World}{X:List Nat}(hX:∀m∈X,m<w.heap.size){v_a:Value}{a:List Nat}(h_a:UL w X v_a (a))(b:Nat)(hn_a:a.length≤1000000000000)(hb_a:Lb a)(hb0:0<b)(hb1:b<1000000000):
 Calls Tryz.prog 231 #[v_a,(.int .u32 ((b:Nat):Int))] w (Ret λr w'=>(∃qs:List Nat,∃rs:List Nat,∃r0 r1,r=.tuple #[r0,r1]∧UL w' X r0 (qs)∧UL w' X r1 (rs)∧Lb qs∧Lb rs∧val a=b*val qs+val rs∧val rs<b∧qs.length=a.length∧rs.length=1)∧Below w.heap.size w w'):=(ahz ((inferInstance:DenI Tryz.prog 231 [.c (lmc a),.int .u32 (b:Nat)] _ _).den ⟨hn_a,hb_a,hb0,hb1⟩) hX rfl (J4 (.c h_a.rep) (.c (.v _ rfl)))).mono λe w' ⟨u,he,⟨r0,r1,h1,h2,h3⟩,hb⟩=>⟨u,he,⟨_,_,r0,r1,h1,h2,h3,YI hb_a hb0 hb1⟩,hb⟩
end Go.Proofs.YtmniihkenijjpaaGreatDoor
namespace Go.Proofs.YtmniihkenijjpaaGreatDoor
open Go Go.RowKit Go.Sw
set_option maxRecDepth 20000
namespace TfE
theorem el154:Sw.elemOf Tryz.prog 154=some (#[.int .u32 0],1,4):=by kernel_rfl
theorem one154:isOne Tryz.prog 154=true:=by kernel_rfl
theorem size154:(Tryz.prog.info? 154).map (λi=>i.size)=some 1:=by kernel_rfl
theorem sl26:sliceOf Tryz.prog 26=some (154,1):=by kernel_rfl
theorem sls26:(sliceOf Tryz.prog 26).isSome=true:=by kernel_rfl
theorem und152:Tryz.prog.underlying 152=some (TypeDesc.int .u64):=by kernel_rfl
theorem und154:Tryz.prog.underlying 154=some (TypeDesc.int .u32):=by kernel_rfl
theorem unds152:(Tryz.prog.underlying 152).isSome=true:=by kernel_rfl
theorem unds154:(Tryz.prog.underlying 154).isSome=true:=by kernel_rfl
end TfE
set_option maxHeartbeats 4000000 in
theorem qP{w:World}{X:List Nat}(hX:∀m∈X,m<w.heap.size){v_a:Value}{a:List Nat}(h_a:UL w X v_a (a)){v_b:Value}{b:List Nat}(h_b:UL w X v_b (b))(hn_a:a.length≤1000000000000)(hn_b:b.length≤1000000000000)(hb_a:Lb a)(hb_b:Lb b):
 Calls Tryz.prog 161 #[v_a,v_b] w (Ret λr w'=>(∃o:List Nat,agY 154 w w' r (o)∧Lb o∧val o=val a*val b∧o.length=a.length+b.length)∧Below w.heap.size w w'):=by
 refine enter (N:=68) (fn:=Tryz.f161) (vs:=[v_a,v_b]) Tryz.func161 rfl rfl rfl ?_;intro fa hF;obtain⟨A_a,_,c_a,rfl,rfl,hu_a⟩:=h_a;have hl_a:=hu_a.len;have hc_a:=hu_a.cap;obtain⟨A_b,_,c_b,rfl,rfl,hu_b⟩:=h_b;have hl_b:=hu_b.len;have hc_b:=hu_b.cap;replace hF:Frm 68 fa [(0,(.slice (A_a) (a.length) (c_a))),(1,(.slice (A_b) (b.length) (c_b)))]:=hF;have hS:=St.refl w;refine c_seq ?_;refine c_reg ?_;refine pr hF (pa rfl <| PR.nil) ?_;clear hF fa;intro fa hF;refine ak ?_;refine c_seq ?_;refine c_reg ?_;refine pr hF (pm rfl <| pg (λ_ hF=>eY TfE.sls26 (hF.ev rfl)) <| pm rfl <| pg (λ_ hF=>eY TfE.sls26 (hF.ev rfl)) <| pg (λ_ hF=>ex_add (hF.ev rfl) (hF.ev rfl) iO) <| PR.nil) ?_;clear hF fa;intro fa hF;refine st rfl (BM (X:=X) (nl:=a.length+b.length) (nc:=a.length+b.length) hF hS rfl TfE.sl26 TfE.el154 rfl rfl (by omega) (by omega) (by omega) (by omega) (by omega) (yt _) ?_);intro g1 w2 hg4 hS E3;refine jO ?_;clear hF fa;intro fa hF;rw[Va]at hS;refine pr hF (pa rfl <| PR.nil) ?_;clear hF fa;intro fa hF;refine ak ?_;refine c_seq ?_;refine c_seq ?_;refine c_reg ?_;refine pr hF (pm rfl <| pg (λ_ hF=>eY TfE.sls26 (hF.ev rfl)) <| pm rfl <| PR.nil) ?_;clear hF fa;intro fa hF;refine ak ?_;refine c_block ?_;refine rD (λmu fa w'=>∃o:List Nat,∃i:Nat,Frm 68 fa [(0,(.slice (A_a) (a.length) (c_a))),(1,(.slice (A_b) (b.length) (c_b))),(4,(.slice (none) (0) (0))),(5,(.slice (some ⟨g1,0,none⟩) (a.length+b.length) (a.length+b.length))),(18,(.slice (A_a) (a.length) (c_a))),(19,(.int .i64 (((a.length:Nat):Int)))),(20,(.int .i64 (((i:Nat):Int))))]∧St w w' [(g1,154,(us (o)).toArray)]∧Ext w2 (g1::X) w' (g1::X)∧(i≤a.length)∧(o.length=a.length+b.length)∧(Lb o)∧(val (o.take (i+b.length))=val (a.take i)*val b)∧a.length-i=mu) ?_ ?_
 ·
  exact⟨_,List.replicate (a.length+b.length) 0,0,(hF.all ⟨rfl,rfl,rfl,rfl,rfl,rfl,(bI rfl (by omega)),trivial⟩),hS,Ext.refl _ _,(by omega),(by simp),(jy _),(by simp[qO,List.take_replicate,val]),rfl⟩
 clear hF fa;intro n0_ fa w' hI;clear hS;obtain⟨o,i,hF,hS,E6,hi,ho,hbo,hv,rfl⟩:=hI
 rename World=>w5
 refine c_seq ?_;refine c_reg ?_;refine pr hF (pg (λ_ hF=>ex_lss (hF.ev rfl) (hF.ev rfl)) <| PR.nil) ?_;clear hF fa;intro fa hF;refine ak ?_;refine c_seq ?_;refine fG hF rfl (λhc7=>?_) (λhc7=>?_)
 ·
  have hc7p:((i:Nat):Int)<((a.length:Nat):Int):=by first|simpa using hc7|exact bQ hc7|exact bT hc7
  refine c_skip ?_;refine x_tn ?_;refine c_seq ?_;refine c_block ?_;refine c_seq ?_;refine c_reg ?_;refine pr hF (pm rfl <| PR.nil) ?_;clear hF fa;intro fa hF;obtain⟨ad8,hA9,hq10⟩:=(hu_a.ext (E3.trans E6)).cl.at_ (iW (l:=a) (i:=i) (by omega));refine pr hF (pg (λ_ hF=>iZ (j:=i) TfE.sl26 (hF.ev rfl) hA9 (hF.ev rfl) (by omega) (by omega)) <| pg (λ_ hF=>ex_load1 TfE.one154 (hF.ev rfl) hq10) <| pa rfl <| pa rfl <| PR.nil) ?_;clear hF fa;intro fa hF;refine ak ?_;refine c_seq ?_;refine c_reg ?_;refine pr hF (pa rfl <| PR.nil) ?_;clear hF fa;intro fa hF;refine ak ?_;refine c_seq ?_;refine c_seq ?_;refine c_reg ?_;refine pr hF (pm rfl <| pg (λ_ hF=>eY TfE.sls26 (hF.ev rfl)) <| pm rfl <| PR.nil) ?_;clear hF fa;intro fa hF;refine ak ?_;refine c_block ?_;refine rD (λmu fa w'=>∃o2:List Nat,∃cr:Nat,∃k:Nat,Frm 68 fa [(0,(.slice (A_a) (a.length) (c_a))),(1,(.slice (A_b) (b.length) (c_b))),(4,(.slice (none) (0) (0))),(5,(.slice (some ⟨g1,0,none⟩) (a.length+b.length) (a.length+b.length))),(18,(.slice (A_a) (a.length) (c_a))),(19,(.int .i64 (((a.length:Nat):Int)))),(20,(.int .i64 (((i:Nat):Int)))),(21,(.bool (decide (((i:Nat):Int)<((a.length:Nat):Int))))),(6,(.int .i64 (((i:Nat):Int)))),(7,(.int .u32 (((a.getD (i) 0:Nat):Int)))),(25,(.slice (A_b) (b.length) (c_b))),(26,(.int .i64 (((b.length:Nat):Int)))),(8,(.int .u64 (((cr:Nat):Int)))),(27,(.int .i64 (((k:Nat):Int))))]∧St w w' [(g1,154,(us (o2)).toArray)]∧Ext w5 (g1::X) w' (g1::X)∧(k≤b.length)∧(o2.length=a.length+b.length)∧(Lb o2)∧(cr<1000000000)∧(val (o2.take (i+b.length))+1000000000^(i+k)*cr=val (a.take i)*val b+1000000000^i*(a.getD i 0*val (b.take k)))∧b.length-k=mu) ?_ ?_
  ·
   exact⟨_,o,0,0,(hF.all ⟨rfl,rfl,rfl,rfl,rfl,rfl,rfl,rfl,rfl,rfl,rfl,rfl,(bI rfl (by omega)),(bI rfl (by omega)),trivial⟩),hS,Ext.refl _ _,(by omega),(ho),(hbo),(by omega),(by simp[val,hv]),rfl⟩
  clear hF fa;intro n1_ fa w' hI;clear hS;obtain⟨o2,cr,k,hF,hS,E12,hk,ho2,hbo2,hcr,hv2,rfl⟩:=hI
  rename World=>MQ
  have hak:=hb_a.getD i;have hbk:=hb_b.getD k;have hok:=hbo2.getD (i+k);have hca:=DW hak hbk hok hcr;have hca1:=hca.1;have hca2:=hca.2;refine c_seq ?_;refine c_reg ?_;refine pr hF (pg (λ_ hF=>ex_lss (hF.ev rfl) (hF.ev rfl)) <| PR.nil) ?_;clear hF fa;intro fa hF;refine ak ?_;refine c_seq ?_;refine fG hF rfl (λhc13=>?_) (λhc13=>?_)
  ·
   have hc13p:((k:Nat):Int)<((b.length:Nat):Int):=by first|simpa using hc13|exact bQ hc13|exact bT hc13
   refine c_skip ?_;refine x_tn ?_;refine c_seq ?_;refine c_block ?_;refine c_seq ?_;refine c_reg ?_;refine pr hF (pm rfl <| PR.nil) ?_;clear hF fa;intro fa hF;obtain⟨ad14,hA15,hq16⟩:=(hu_b.ext ((E3.trans E6).trans E12)).cl.at_ (iW (l:=b) (i:=k) (by omega));refine pr hF (pg (λ_ hF=>iZ (j:=k) TfE.sl26 (hF.ev rfl) hA15 (hF.ev rfl) (by omega) (by omega)) <| pg (λ_ hF=>ex_load1 TfE.one154 (hF.ev rfl) hq16) <| pa rfl <| pa rfl <| PR.nil) ?_;clear hF fa;intro fa hF;replace hF:Frm 68 fa [(0,(.slice (A_a) (a.length) (c_a))),(1,(.slice (A_b) (b.length) (c_b))),(4,(.slice (none) (0) (0))),(5,(.slice (some ⟨g1,0,none⟩) (a.length+b.length) (a.length+b.length))),(18,(.slice (A_a) (a.length) (c_a))),(19,(.int .i64 (((a.length:Nat):Int)))),(20,(.int .i64 (((i:Nat):Int)))),(21,(.bool (decide (((i:Nat):Int)<((a.length:Nat):Int))))),(6,(.int .i64 (((i:Nat):Int)))),(7,(.int .u32 (((a.getD (i) 0:Nat):Int)))),(25,(.slice (A_b) (b.length) (c_b))),(26,(.int .i64 (((b.length:Nat):Int)))),(8,(.int .u64 (((cr:Nat):Int)))),(27,(.int .i64 (((k:Nat):Int)))),(28,(.bool (decide (((k:Nat):Int)<((b.length:Nat):Int))))),(9,(.int .i64 (((k:Nat):Int)))),(10,(.int .u32 (((b.getD (k) 0:Nat):Int))))]:=(hF.all ⟨rfl,rfl,rfl,rfl,rfl,rfl,rfl,rfl,rfl,rfl,rfl,rfl,rfl,rfl,rfl,rfl,rfl,trivial⟩)
   refine ak ?_;refine c_seq ?_;refine c_reg ?_;refine pr hF (pm rfl <| pm rfl <| pm rfl <| pg (λ_ hF=>ex_add (hF.ev rfl) (hF.ev rfl) iO) <| pg (λ_ hF=>l9 (j:=i+k) TfE.sl26 (hF.ev rfl) (hF.ev rfl) (by omega) (by omega)) <| pg (λ_ hF=>iQ TfE.one154 (hF.ev rfl) (hS.get 0 rfl) (ad2 (by first|omega|(simp;omega)))) <| pg (λ_ hF=>ex_conv TfE.unds154 TfE.und152 (hF.ev rfl) (jI (by omega))) <| pm rfl <| pg (λ_ hF=>ex_conv TfE.unds154 TfE.und152 (hF.ev rfl) (jI (by omega))) <| pm rfl <| pg (λ_ hF=>ex_conv TfE.unds154 TfE.und152 (hF.ev rfl) (jI (by omega))) <| pg (λ_ hF=>ex_mul (hF.ev rfl) (hF.ev rfl) kV) <| pg (λ_ hF=>ex_add (hF.ev rfl) (hF.ev rfl) kV) <| pm rfl <| pg (λ_ hF=>ex_add (hF.ev rfl) (hF.ev rfl) kV) <| pa rfl <| PR.nil) ?_;clear hF fa;intro fa hF;replace hF:Frm 68 fa [(0,(.slice (A_a) (a.length) (c_a))),(1,(.slice (A_b) (b.length) (c_b))),(4,(.slice (none) (0) (0))),(5,(.slice (some ⟨g1,0,none⟩) (a.length+b.length) (a.length+b.length))),(18,(.slice (A_a) (a.length) (c_a))),(19,(.int .i64 (((a.length:Nat):Int)))),(20,(.int .i64 (((i:Nat):Int)))),(21,(.bool (decide (((i:Nat):Int)<((a.length:Nat):Int))))),(6,(.int .i64 (((i:Nat):Int)))),(7,(.int .u32 (((a.getD (i) 0:Nat):Int)))),(25,(.slice (A_b) (b.length) (c_b))),(26,(.int .i64 (((b.length:Nat):Int)))),(8,(.int .u64 (((cr:Nat):Int)))),(27,(.int .i64 (((k:Nat):Int)))),(28,(.bool (decide (((k:Nat):Int)<((b.length:Nat):Int))))),(9,(.int .i64 (((k:Nat):Int)))),(10,(.int .u32 (((b.getD (k) 0:Nat):Int)))),(11,(.int .u64 ((((o2.getD (i+k) 0:Nat):Int)+(((a.getD (i) 0:Nat):Int)*((b.getD (k) 0:Nat):Int)))+((cr:Nat):Int))))]:=(hF.all ⟨rfl,rfl,rfl,rfl,rfl,rfl,rfl,rfl,rfl,rfl,rfl,rfl,rfl,rfl,rfl,rfl,rfl,rfl,trivial⟩)
   refine ak ?_;refine c_reg ?_;refine pr hF (pm rfl <| pm rfl <| pm rfl <| pg (λ_ hF=>ex_add (hF.ev rfl) (hF.ev rfl) iO) <| pm rfl <| pg (λ_ hF=>ex_rem (hF.ev rfl) (hF.ev rfl) (by omega) (FX (x:=((o2.getD (i+k) 0)+((a.getD (i) 0)*(b.getD (k) 0)))+cr) (y:=1000000000) (by omega) (by omega))) <| pg (λ_ hF=>ex_conv TfE.unds152 TfE.und154 (hF.ev rfl) (zS (by omega))) <| pm rfl <| pg (λ_ hF=>ex_quo (hF.ev rfl) (hF.ev rfl) (by omega) (xY (x:=((o2.getD (i+k) 0)+((a.getD (i) 0)*(b.getD (k) 0)))+cr) (y:=1000000000) (by omega) (by omega) (by omega))) <| pg (λ_ hF=>l9 (j:=i+k) TfE.sl26 (hF.ev rfl) (hF.ev rfl) (by omega) (by omega)) <| PR.nil) ?_;clear hF fa;intro fa hF;refine st rfl (iw (vs:=#[.int .u32 (((((o2.getD (i+k) 0)+((a.getD (i) 0)*(b.getD (k) 0)))+cr)%1000000000:Nat):Int)]) (v:=.int .u32 (((((o2.getD (i+k) 0)+((a.getD (i) 0)*(b.getD (k) 0)))+cr)%1000000000:Nat):Int)) (X:=(g1::X)) hF hS 0 rfl (by simp) rfl (fE rfl (by omega)) rfl TfE.size154 rfl (zy (by first|omega|(simp;omega))) ?_);intro w17 hS E18;rw[nK (by first|omega|(simp;omega))]at hS;refine pr hF (pa rfl <| PR.nil) ?_;clear hF fa;intro fa hF;refine gK ?_;refine x_bn ?_;refine x_tn ?_;refine c_reg ?_;refine pr hF (pg (λ_ hF=>ex_add (hF.ev rfl) (hF.ev rfl) iO) <| pm rfl <| PR.nil) ?_;clear hF fa;intro fa hF;refine gK ?_;refine x_tn ?_;exact⟨_,(by omega),o2.set (i+k) ((((o2.getD (i+k) 0)+((a.getD (i) 0)*(b.getD (k) 0)))+cr)%1000000000),(((o2.getD (i+k) 0)+((a.getD (i) 0)*(b.getD (k) 0)))+cr)/1000000000,(k+1),(hF.all ⟨rfl,rfl,rfl,rfl,rfl,rfl,rfl,rfl,rfl,rfl,rfl,rfl,(bI rfl (by omega)),(bI rfl (by omega)),trivial⟩),hS,(E12.trans E18),(by omega),(by simp;omega),(eU hbo2 (by omega)),(by omega),(wR (by omega) (by omega) hv2 (by omega) rfl rfl),rfl⟩
  have hc13p:¬(((k:Nat):Int)<((b.length:Nat):Int)):=by first|simpa using hc13|exact bQ hc13|exact bT hc13
  refine c_exit ?_;refine x_te ?_;refine x_te ?_;refine x_bh ?_;refine x_tn ?_;refine c_reg ?_;refine pr hF (pm rfl <| pm rfl <| pm rfl <| pg (λ_ hF=>eY TfE.sls26 (hF.ev rfl)) <| pg (λ_ hF=>ex_add (hF.ev rfl) (hF.ev rfl) iO) <| pm rfl <| pg (λ_ hF=>ex_conv TfE.unds152 TfE.und154 (hF.ev rfl) (zS (by omega))) <| pg (λ_ hF=>l9 (j:=i+b.length) TfE.sl26 (hF.ev rfl) (hF.ev rfl) (by omega) (by omega)) <| PR.nil) ?_;clear hF fa;intro fa hF;refine st rfl (iw (vs:=#[.int .u32 ((cr:Nat):Int)]) (v:=.int .u32 ((cr:Nat):Int)) (X:=(g1::X)) hF hS 0 rfl (by simp) rfl (fE rfl (by omega)) rfl TfE.size154 rfl (zy (by first|omega|(simp;omega))) ?_);intro w19 hS E20;rw[nK (by first|omega|(simp;omega))]at hS;replace hF:Frm 68 fa [(0,(.slice (A_a) (a.length) (c_a))),(1,(.slice (A_b) (b.length) (c_b))),(4,(.slice (none) (0) (0))),(5,(.slice (some ⟨g1,0,none⟩) (a.length+b.length) (a.length+b.length))),(18,(.slice (A_a) (a.length) (c_a))),(19,(.int .i64 (((a.length:Nat):Int)))),(20,(.int .i64 (((i:Nat):Int)))),(21,(.bool (decide (((i:Nat):Int)<((a.length:Nat):Int))))),(6,(.int .i64 (((i:Nat):Int)))),(7,(.int .u32 (((a.getD (i) 0:Nat):Int)))),(25,(.slice (A_b) (b.length) (c_b))),(26,(.int .i64 (((b.length:Nat):Int)))),(8,(.int .u64 (((cr:Nat):Int)))),(27,(.int .i64 (((k:Nat):Int)))),(28,(.bool (decide (((k:Nat):Int)<((b.length:Nat):Int)))))]:=(hF.all ⟨rfl,rfl,rfl,rfl,rfl,rfl,rfl,rfl,rfl,rfl,rfl,rfl,rfl,rfl,rfl,trivial⟩)
  refine gK ?_;refine x_bn ?_;refine x_tn ?_;refine c_reg ?_;refine pr hF (pg (λ_ hF=>ex_add (hF.ev rfl) (hF.ev rfl) iO) <| pm rfl <| PR.nil) ?_;clear hF fa;intro fa hF;refine gK ?_;refine x_tn ?_;exact⟨_,(by omega),o2.set (i+b.length) (cr),(i+1),(hF.all ⟨rfl,rfl,rfl,rfl,rfl,rfl,(bI rfl (by omega)),trivial⟩),hS,((E6.trans E12).trans E20),(by omega),(by simp;omega),(eU hbo2 (by omega)),(y7 (by omega) (by rw[show k=b.length by omega]at hv2;exact hv2)),rfl⟩
 have hc7p:¬(((i:Nat):Int)<((a.length:Nat):Int)):=by first|simpa using hc7|exact bQ hc7|exact bT hc7
 refine c_exit ?_;refine x_te ?_;refine x_te ?_;refine x_bh ?_;refine x_tn ?_;refine c_seq ?_;refine c_reg ?_;refine pr hF (pm rfl <| pa rfl <| PR.nil) ?_;clear hF fa;intro fa hF;refine ak ?_;refine c_ret ?_;rw[bP (l:=o) (by omega),bP (l:=a) (by omega)]at hv;refine aeP hF rfl (jF hF rfl) ?_;exact⟨_,rfl,⟨o,(Own.mk_ (L:=o) (hS.get 0 rfl) (hS.base 0 rfl) (by omega) (by omega) (rfl)),(hbo),(hv),(ho)⟩,hS.below⟩
end Go.Proofs.YtmniihkenijjpaaGreatDoor
