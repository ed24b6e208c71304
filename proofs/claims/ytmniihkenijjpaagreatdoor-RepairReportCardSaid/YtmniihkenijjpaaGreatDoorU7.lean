/-
  Rules of the abstract run, plain laws, and what functions answer, for the law RepairReport.
  Conditions: none.
-/
import Derived.Test.YtmniihkenijjpaaGreatDoorU6
import Derived.Test.YtmniihkenijjpaaGreatDoorChecked
set_option linter.all false
namespace Go.Sw
open Go
def pad:Nat->Nat->List Nat
 |0,_=>[]
 |n+1,v=>v%1000000000::pad n (v/1000000000)
theorem Gv:∀(n v:Nat),(pad n v).length=n
 |0,_=>rfl
 |n+1,v=>by simp[pad,Gv]
theorem jy:∀(n v:Nat),Lb (pad n v)
 |0,_=>Lb.nil
 |n+1,v=>Lb.cons (mY _ ψ) (jy n _)
theorem jk:∀(n v:Nat),v<1000000000^n->val (pad n v)=v
 |0,v,h=>by simp at h;subst h;rfl
 |n+1,v,h=>by
  have:v/1000000000<1000000000^n:=Nat.div_lt_of_lt_mul (by rw[rG,yB]at h;exact h);simp only[pad,val,jk n _ this];omega
theorem wK:∀(l:List Nat),Lb l->l=pad l.length (val l)
 |[],_=>rfl
 |x::r,h=>by
  have h1:=h.head;have h2:=wK r h.tail;simp only[bn,pad,val];rw[show(x+1000000000*val r)%1000000000=x by omega,show(x+1000000000*val r)/1000000000=val r by omega,<-h2]
theorem Iu{l:List Nat}{n v:Nat}(h:Lb l)(hl:l.length=n)(hv:val l=v):lmc l=lmc (pad n v):=by
 subst hl hv;rw[<-wK l h]
theorem cE{c c':Cell}(h:c=c'):packA [AV.c c]=AV.c c':=by rw[h];rfl
theorem lE{l l':List Nat}(h:l=l'):packA [AV.c (lmc l)]=AV.c (lmc l'):=by rw[h];rfl
theorem aaf{l:List Nat}{k:Nat}{i:Int}(hk:k<=l.length)(h0:¬k=0)(hi:i.toNat=k-1):some (AV.c (.sl 1 ((((l.take k).map λx=>[Cell.v (u32 x)]).take i.toNat).drop (Int.toNat 0))))=some (AV.c (lmc (l.take (k-1)))):=by
 rw[hi];show some (AV.c (.sl 1 (List.drop 0 _)))=_;rw[J3,<-List.map_take,List.take_take,Nat.min_eq_left ω]
theorem qF{x:Nat}:((x:Int)-1).toNat=x-1:=ω
theorem JY{x:Nat}:((x:Int)+1).toNat=x+1:=ω
theorem uN{x n:Nat}(h:x<=n):min x n=x:=Nat.min_eq_left h
theorem qM{l:List Nat}{x:Nat}(hx:x<=l.length/\∀j,x<=j->l.getD j 0=0)(h:x=0\/(l.take x).getD (x-1) 0≠0):packA [AV.c (lmc (l.take x))]=AV.c (lmc (ah l)) :=
 lE (jT l x hx.1 hx.2 (Jm hx.1 h))
theorem zE{neg b:Bool}{l:List Nat}(hb:Lb l)(h:b=(neg&&decide (0<val l))):packA [AV.agg [Cell.v (.bool b),lmc (ah l)]]=Z (cO neg (val l)):=by
 subst h;show AV.agg [_,_]=AV.agg [zs _,zl _];unfold zs zl;rw[sD,jq,gZ l hb]
theorem ER{l:List Nat}(hb:Lb l):0<(ah l).length↔0<val l:=by
 rw[<-gZ l hb];have:=bM (n:=val l);omega
theorem zE1{b:Bool}{l:List Nat}(hb:Lb l)(h:b=decide ((((ah l).length:Nat):Int)>0)):packA [AV.agg [Cell.v (.bool b),lmc (ah l)]]=Z (cO true (val l)) :=
 zE hb (by have:=ER hb;subst h;rw[BM,decide_eq_decide];omega)
theorem zE0{l:List Nat}(hb:Lb l):packA [AV.agg [Cell.v (.bool false),lmc (ah l)]]=Z (cO false (val l)):=zE hb rfl
theorem Zv{l:List Nat}{x:Nat}{i j:Int}(hx:x<=l.length/\∀j,x<=j->l.getD j 0=0)(h:x=0\/l.getD (x-1) 0≠0)(hi:i.toNat=0)(hj:j.toNat=x):Cell.sl 1 (List.drop i.toNat (List.take j.toNat (l.map λx=>[Cell.v (u32 x)])))=lmc (ah l):=by
 rw[hi,hj,J3,<-List.map_take,jT l x hx.1 hx.2 h]
theorem sg1{b:Bool}{l:List Nat}{x:Nat}{i j:Int}(hb:Lb l)(hx:x<=l.length/\∀j,x<=j->l.getD j 0=0)(h:x=0\/l.getD (x-1) 0≠0)(hi:i.toNat=0)(hj:j.toNat=x)(he:b=decide (((x:Nat):Int)>0)):
 packA [AV.agg [Cell.v (.bool b),Cell.sl 1 (List.drop i.toNat (List.take j.toNat (l.map λx=>[Cell.v (u32 x)])))]]=Z (cO true (val l)):=by
 rw[Zv hx h hi hj];have hl:=congrArg List.length (jT l x hx.1 hx.2 h);rw[kM,Nat.min_eq_left hx.1]at hl;exact zE1 hb (by rw[he,hl])
theorem sg0{l:List Nat}{x:Nat}{i j:Int}(hb:Lb l)(hx:x<=l.length/\∀j,x<=j->l.getD j 0=0)(h:x=0\/l.getD (x-1) 0≠0)(hi:i.toNat=0)(hj:j.toNat=x):
 packA [AV.agg [Cell.v (.bool false),Cell.sl 1 (List.drop i.toNat (List.take j.toNat (l.map λx=>[Cell.v (u32 x)])))]]=Z (cO false (val l)):=by
 rw[Zv hx h hi hj];exact zE0 hb
theorem YU{n:Nat}(h0:0<n)(h:n<=9223372036854775807):some (AV.int .i64 (IntKind.i64.wrap ((n:Int)-1)))=some (AV.int .i64 ((n-1:Nat):Int)):=by
 rw[aS ω ω];congr 2;omega
theorem XG{n:Nat}(h:n<=9223372036854775807):some (AV.int .i64 (IntKind.i64.wrap ((n:Int)-1)))=some (AV.int .i64 ((n:Int)-1)):=by
 rw[aS ω ω]
theorem qE{n:Nat}(h0:0<n)(h:n<=9223372036854775807):some (AV.int .i64 (IntKind.i64.wrap ((n:Int)-1-1)))=some (AV.int .i64 (((n-1:Nat):Int)-1)):=by
 rw[aS ω ω];congr 2;omega
section
variable {a b:List Nat} {x:Nat}
theorem Hq(ha:CanL a)(hb:CanL b)(h:a.length<b.length):packA [AV.c (Cell.v (.int .i64 (-1)))]=AV.int .i64 (dL (val a) (val b)):=by rw[Hw (eU ha hb h)];rfl
theorem II(ha:CanL a)(hb:CanL b)(h:b.length<a.length):packA [AV.c (Cell.v (.int .i64 1))]=AV.int .i64 (dL (val a) (val b)):=by rw[Gz (eU hb ha h)];rfl
theorem UZ(ha:CanL a)(hb:CanL b)(hx:x<=a.length/\∀j,x<=j->a.getD j 0=b.getD j 0)(hl:a.length=b.length)(h0:0<x)(h:a.getD (x-1) 0<b.getD (x-1) 0):packA [AV.c (Cell.v (.int .i64 (-1)))]=AV.int .i64 (dL (val a) (val b)):=by
 rw[Hw (jR (x-1) ha.1 hb.1 hl ω (λj hj=>hx.2 j ω) h)];rfl
theorem TT(ha:CanL a)(hb:CanL b)(hx:x<=a.length/\∀j,x<=j->a.getD j 0=b.getD j 0)(hl:a.length=b.length)(h0:0<x)(h:b.getD (x-1) 0<a.getD (x-1) 0):packA [AV.c (Cell.v (.int .i64 1))]=AV.int .i64 (dL (val a) (val b)):=by
 rw[Gz (jR (x-1) hb.1 ha.1 hl.symm ω (λj hj=>(hx.2 j ω).symm) h)];rfl
theorem TW(hx:x<=a.length/\∀j,x<=j->a.getD j 0=b.getD j 0)(hl:a.length=b.length)(h0:x=0):packA [AV.c (Cell.v (.int .i64 0))]=AV.int .i64 (dL (val a) (val b)):=by
 rw[Qr (congrArg val (CQ hl λj=>hx.2 j ω))];rfl
theorem fz2(h:a.length=b.length):a.length<=a.length/\∀j,a.length<=j->a.getD j 0=b.getD j 0:=⟨gW _,λj hj=>by rw[getD_none hj,getD_none ω]⟩
end
theorem iw{v m:Int}(h:0<=v):v.tmod m=v%m:=Int.tmod_eq_emod_of_nonneg h
theorem iq{v m:Int}(h:0<=v):v.tdiv m=v/m:=Int.tdiv_eq_ediv_of_nonneg h
theorem qp{o:List Nat}{k d i T:Nat}{v:Int}(hi:i=k)(hv:v=(d:Int)):some (Bk.grow T 1 ((o.map λx=>[Cell.v (u32 x)]).set i [Cell.v (.int .u32 v)]))=some (Bk.grow T 1 ((o.set k d).map λx=>[Cell.v (u32 x)])):=by
 subst hi hv;rw[List.map_set];rfl
theorem kR(n T:Nat):some (Bk.grow T 1 (List.replicate n [Cell.v (.int .u32 0)]))=some (Bk.grow T 1 ((List.replicate n 0).map λx=>[Cell.v (u32 x)])):=by
 rw[List.map_replicate];rfl
theorem iS{k:IntKind}{a b:Int}(h:a=b):some (AV.int k a)=some (AV.int k b):=by rw[h]
theorem acS(l:List Nat)(i d:Nat):(l.map λx=>[Cell.v (u32 x)]).set i [Cell.v (.int .u32 ((d:Nat):Int))]=(l.set i d).map λx=>[Cell.v (u32 x)]:=by rw[List.map_set];rfl
theorem La{o x y:List Nat}{k cr v:Nat}(ho:o.length=x.length+1)(hk:k=x.length)(hy:y.length<=x.length)(hb:Lb o)(hc:cr<=1)(hv:val (o.take k)+1000000000^k*cr=val (x.take k)+val (y.take k))(e:v=val x+val y):
 packA [AV.c (lmc (ah (o.set x.length cr)))]=AV.c (lmc (lim v)):=lE (by
 have h1:=KD ho hk hy hv
 rw[e,<-h1,gZ _ (cZ hb ω)])
theorem Cm{o:List Nat}{d T:Nat}{v:Int}(hv:v=(d:Int)):some (Bk.grow T 1 ((o.map λx=>[Cell.v (u32 x)])++[[Cell.v (.int .u32 v)]]))=some (Bk.grow T 1 ((o++[d]).map λx=>[Cell.v (u32 x)])):=by
 subst hv;rw[bH];rfl
theorem TR{b n m:Nat}(h:n=m):some (AV.gs b n)=some (AV.gs b m):=by rw[h]
theorem Z7{o:List Nat}{d:Nat}:Cell.sl 1 ((o.map λx=>[Cell.v (u32 x)])++[[Cell.v (.int .u32 ((d:Nat):Int))]])=lmc (o++[d]):=by
 unfold lmc;rw[bH];rfl
theorem XT{l:List Nat}{n v:Nat}(h:Lb l)(hl:l.length=n)(hv:val l=v):packA [AV.c (lmc l)]=AV.c (lmc (pad n v)):=cE (Iu h hl hv)
theorem Yh{l:List Nat}{d n v:Nat}(h:Lb l)(hd:d<1000000000)(hl:l.length+1=n)(hv:val l+1000000000^l.length*d=v):packA [AV.c (.sl 1 ((l.map λx=>[Cell.v (u32 x)])++[[Cell.v (.int .u32 ((d:Nat):Int))]]))]=AV.c (lmc (pad n v)):=by
 rw[Z7];exact XT (lT h hd) (by simpa using hl) (by rw[Me rfl];exact hv)
theorem zn{o x y:List Nat}{k br:Nat}(hbo:Lb o)(hx:Lb x)(ho:o.length=x.length)(hk:k=x.length)(hy:y.length<=x.length)(hle:val y<=val x)(hv:val (o.take k)+val (y.take k)=val (x.take k)+1000000000^k*br):val o=val x-val y:=by
 subst hk;have hlt:=dO o hbo;have hx0:=dO x hx;rw[aU (l:=o) ω,aU (l:=y) ω,aU (l:=x) ω]at hv;rw[ho]at hlt;exact Jd hx0 hv hle hlt
theorem Ji{o x y:List Nat}{k br:Nat}(hbo:Lb o)(hx:Lb x)(ho:o.length=x.length)(hk:k=x.length)(hy:y.length<=x.length)(hle:val y<=val x)(hv:val (o.take k)+val (y.take k)=val (x.take k)+1000000000^k*br):packA [AV.c (lmc (ah o))]=AV.c (lmc (lim (val x-val y))) :=
 lE (by rw[<-zn hbo hx ho hk hy hle hv,gZ _ hbo])
theorem yU{o a b:List Nat}{i:Nat}(ho:o.length=a.length+b.length)(hi:i=a.length)(hv:val (o.take (i+b.length))=val (a.take i)*val b):val o=val a*val b:=by
 subst hi;rw[aU (l:=o) ω,aU (l:=a) ω]at hv;exact hv
theorem Ih(la lb:Nat)(a b:List Nat):val ((List.replicate (la+lb) 0).take (0+lb))=val (a.take 0)*val b:=by
 rw[List.take_replicate,oH];simp[val]
theorem sG{i k:Nat}:((i:Int)+(k:Int)).toNat=i+k:=ω
theorem Sz{a o:List Nat}{b r:Nat}(h0:0<b)(hr:r<b)(ho:o.length=a.length)(hb:Lb o)(hv:val (a.drop 0)=b*val (o.drop 0)+r):
 packA [AV.c (lmc o),AV.c (.sl 1 [[Cell.v (.int .u32 ((r:Nat):Int))]])]=AV.tup [AV.c (lmc (pad a.length (val a/b))),AV.c (lmc [val a%b])]:=by
 rw[J3,J3]at hv;have h1:val a/b=val o:=by rw[hv,yB,Nat.add_comm,Nat.add_mul_div_right _ _ h0,Nat.div_eq_of_lt hr,pq]
 have h2:val a%b=r:=by rw[hv,Nat.mul_add_mod,GL hr]
 rw[h1,h2,<-Iu hb ho rfl];rfl
theorem Jp{n:Nat}(h:n<1000000000000000000000000000){x y z:Int}(hx:x=((n%1000000000:Nat):Int))(hy:y=((n/1000000000%1000000000:Nat):Int))(hz:z=((n/1000000000/1000000000:Nat):Int)):
 packA [AV.c (.sl 1 [[Cell.v (.int .u32 x)],[Cell.v (.int .u32 y)],[Cell.v (.int .u32 z)]])]=AV.c (lmc (pad 3 n)):=by
 subst hx hy hz;refine cE ?_;simp only[pad];rw[show n/1000000000/1000000000%1000000000=n/1000000000/1000000000 by omega];rfl
theorem Lp{n:Nat}(h:n<18446744073709551616):(lim n).length<=3:=gq ω
theorem F5{n m:Nat}{o:List Nat}(h:m<=n/\lim n=o++lim m)(h0:0<m):m/1000000000<=n/\lim n=(o++[m%1000000000])++lim (m/1000000000):=by
 refine⟨aP (ES _ _) h.1, ?_⟩;rw[h.2,iD (by omega:m≠0)];simp
theorem JE{n m:Nat}{o:List Nat}(h:m<=n/\lim n=o++lim m)(h0:m=0):packA [AV.c (lmc o)]=AV.c (lmc (lim n)):=lE (by rw[h.2,h0,dK,bI])
theorem I7{n m:Nat}{o:List Nat}(hn:n<18446744073709551616)(h:m<=n/\lim n=o++lim m)(h0:0<m):o.length+1<=3:=by
 have h1:=congrArg List.length h.2;have h2:=Lp hn;rw[iD (by omega:m≠0)]at h1;simp at h1;omega
theorem Vt{a:Int}(h:(lim a.natAbs).length=0):packA [AV.c (Cell.v (.int .u64 0)),AV.c (Cell.v (.bool true))]=AV.tup [.int .u64 ((if sz a<=2 then a.natAbs else 0:Nat):Int),.bool (decide (sz a<=2))]:=by
 have h1:sz a<=2:=by unfold sz;omega
 rw[if_pos h1,decide_eq_true h1,bM.1 h];rfl
theorem VP{a:Int}{x:Int}(h:(lim a.natAbs).length=1)(hx:x=(((lim a.natAbs).getD 0 0:Nat):Int)):packA [AV.c (Cell.v (.int .u64 x)),AV.c (Cell.v (.bool true))]=AV.tup [.int .u64 ((if sz a<=2 then a.natAbs else 0:Nat):Int),.bool (decide (sz a<=2))]:=by
 have h1:sz a<=2:=by unfold sz;omega
 rw[if_pos h1,decide_eq_true h1,hx,Tf h];rfl
theorem XV{a:Int}{x:Int}(h:(lim a.natAbs).length=2)(hx:x=(((lim a.natAbs).getD 1 0*1000000000+(lim a.natAbs).getD 0 0:Nat):Int)):packA [AV.c (Cell.v (.int .u64 x)),AV.c (Cell.v (.bool true))]=AV.tup [.int .u64 ((if sz a<=2 then a.natAbs else 0:Nat):Int),.bool (decide (sz a<=2))]:=by
 have h1:sz a<=2:=by unfold sz;omega
 rw[if_pos h1,decide_eq_true h1,hx,P6 h];rfl
theorem WT{a:Int}(h:2<(lim a.natAbs).length):packA [AV.c (Cell.v (.int .u64 0)),AV.c (Cell.v (.bool false))]=AV.tup [.int .u64 ((if sz a<=2 then a.natAbs else 0:Nat):Int),.bool (decide (sz a<=2))]:=by
 have h1:¬sz a<=2:=by unfold sz;omega
 rw[if_neg h1,decide_eq_false h1];rfl
theorem Ia:Int.toNat 0=0:=rfl
theorem Ii:Int.toNat 1=1:=rfl
theorem DF(r g:Nat):((r:Int)*1000000000+(g:Int))=((r*1000000000+g:Nat):Int):=ω
theorem EF(t b:Nat):(t:Int)/(b:Int)=((t/b:Nat):Int):=rfl
theorem FK(t b:Nat):(t:Int)%(b:Int)=((t%b:Nat):Int):=rfl
theorem KJ{a:List Nat}{b:Nat}(ha:Lb a)(h0:0<b)(h1:b<1000000000):Lb (pad a.length (val a/b))/\Lb [val a%b]/\val a=b*val (pad a.length (val a/b))+val [val a%b]/\val [val a%b]<b/\(pad a.length (val a/b)).length=a.length/\[val a%b].length=1:=by
 have hm:=mY (val a) h0;have hv:val [val a%b]=val a%b:=by simp[val]
 refine⟨jy _ _,Lb.cons ω Lb.nil, ?_,by rw[hv];exact hm,Gv _ _,rfl⟩;rw[jk _ _ (Nat.lt_of_le_of_lt (ES _ _) (dO a ha)),hv,Nat.div_add_mod]
def KE(b:List Nat):Nat:=1000000000/((ah b).getD ((ah b).length-1) 0+1)
def PO(a b:List Nat):Nat:=if(ah b).length=1 then(ah a).length else if val a<val b then 0 else(ah a).length+2-(ah b).length
def Nb(a b:List Nat):Nat:=if(ah b).length=1 then 1 else if val a<val b then(ah a).length else(lim (val a%val b*KE b)).length
theorem Wx{a b U:List Nat}{n q rs:Nat}(hb:Lb U)(hv:val (U.take n)=val U)(h1:val a*KE b=val b*KE b*q+val U)(h2:val a=val b*q+rs)(h3:rs<val b):(ah (U.take n)).length=(lim (val a%val b*KE b)).length:=by
 have e1:val a%val b=rs:=by rw[h2,Nat.mul_add_mod,GL h3]
 have e2:val U=rs*KE b:=by
  rw[h2,Nat.add_mul]at h1;have:val b*q*KE b=val b*KE b*q:=ν
  omega
 rw[e1,<-e2,<-hv,gZ _ (hb.take n)]
theorem Rh{b:List Nat}(hb:Lb b):0<KE b:=by
 have:=(jS hb).getD ((ah b).length-1);unfold KE;exact Nat.div_pos ω ω
theorem Wh{a b:List Nat}(ha:Lb a)(hb:Lb b)(h0:0<val b):val (pad (PO a b) (val a/val b))=val a/val b:=by
 refine jk _ _ ?_;have hva:=dO _ (jS ha);rw[dn]at hva;unfold PO;split
 .exact Nat.lt_of_le_of_lt (ES _ _) hva
 .split
  .rw[Nat.div_eq_of_lt ξ];decide
  .rename_i h1 h2;have hne:ah b≠[]:=λe=>by have:=dn b;rw[e]at this;simp[val]at this;omega
   have hp:=A8 (dB hb) hne;rw[dn]at hp;have hl:0<(ah b).length:=List.length_pos_iff.2 hne
   have hle:(ah b).length<=(ah a).length:=by
    rcases yP (ah a).length (ah b).length with h|h
    .have:=eU (dB ha) (dB hb) h;rw[dn,dn]at this;omega
    .exact h
   rw[Nat.div_lt_iff_lt_mul h0];refine AP hva (aP ?_ (Au _ hp));rw[<-Nat.pow_add];exact BZ ψ ω
theorem VR{a b:List Nat}(ha:Lb a)(hb:Lb b)(h0:0<val b):val (pad (Nb a b) (val a%val b))=val a%val b:=by
 refine jk _ _ ?_;have hm:=mY (val a) h0;have hvb:=dO _ (jS hb);have hva:=dO _ (jS ha);rw[dn]at hva hvb;unfold Nb;split
 .rename_i h;rw[h]at hvb;omega
 .split
  .exact Nat.lt_of_le_of_lt (Nat.mod_le _ _) hva
  .have:=dO _ (aI (val a%val b*KE b));rw[aB]at this;exact Nat.lt_of_le_of_lt (Nat.le_mul_of_pos_right _ (Rh hb)) this
end Go.Sw
namespace Go.Proofs.YtmniihkenijjpaaGreatDoor
open Go Go.RowKit Go.Sw
set_option maxRecDepth 100000
set_option maxHeartbeats 16000000
instance acd(l:List Nat):DenI Tryz.prog 230 [.c (lmc l)] (True) (.c (lmc (ah l))):=⟨λhp=>by
 refine den_len ζ (λhl=>?_);simp only[lenA,lenC,cellsOf,aG,and_true,true_and]at hl
 all_goals refine au Tryz.func230 rfl ?_
 all_goals first
  |((conv=>whnf);refine Sw.Loop.inv (α:=Nat) (λx=>[(0,.c (lmc (l.take x)))]) (λx=>[]) (λx=>x<=l.length/\∀j,x<=j->l.getD j 0=0) (λx=>x) l.length ?_ ?_ ?_ (λx hx=>?_))
 all_goals(repeat'((try(conv=>whnf));first
  |(with_reducible first|apply zab|apply zac|refine zad (λ_=>?_) (λ_=>?_))|refine zam ?_ ?_|(with_reducible refine zak ?_ ?_)|apply zaq))
 all_goals(try apply zar)
 all_goals first|(show SubE _ _;repeat'(first|exact trivial|refine And.intro ?_ ?_))|(show SubB _ _;repeat'(first|exact trivial|refine And.intro ?_ ?_))|skip
 all_goals(try simp(disch:=omega) only[aG,kM,dh,rV,aS,bD,wu64,uN,qF,JY,iw,iq]at *)
 all_goals first
  |(rw[xY];rfl)|exact⟨gW _,λj hj=>getD_none hj⟩|exact qM hx (.inl ω)|exact qM hx (.inr ω)|((conv=>whnf);exact⟨x-1,⟨⟨aaf hx.1 ω (by simp only[uJ];omega),trivial⟩,⟨⟩,⟨ω,tY hx.2 (take_zero ω ω)⟩,by show x-1<x;omega⟩⟩)|exact za8⟩
instance aa4(l:List Nat):DenI Tryz.prog 142 [.c (lmc l)] (True) (.c (lmc (ah l))):=⟨λhp=>by
 refine den_len ζ (λhl=>?_);simp only[lenA,lenC,cellsOf,aG,and_true,true_and]at hl
 all_goals refine au Tryz.func142 rfl ?_
 all_goals first
  |((conv=>whnf);refine Sw.Loop.inv (α:=Nat) (λx=>[(0,.c (lmc (l.take x)))]) (λx=>[]) (λx=>x<=l.length/\∀j,x<=j->l.getD j 0=0) (λx=>x) l.length ?_ ?_ ?_ (λx hx=>?_))
 all_goals(repeat'((try(conv=>whnf));first
  |(with_reducible first|apply zab|apply zac|refine zad (λ_=>?_) (λ_=>?_))|refine zam ?_ ?_|(with_reducible refine zak ?_ ?_)|apply zaq))
 all_goals(try apply zar)
 all_goals first|(show SubE _ _;repeat'(first|exact trivial|refine And.intro ?_ ?_))|(show SubB _ _;repeat'(first|exact trivial|refine And.intro ?_ ?_))|skip
 all_goals(try simp(disch:=omega) only[aG,kM,dh,rV,aS,bD,wu64,uN,qF,JY,iw,iq]at *)
 all_goals first
  |(rw[xY];rfl)|exact⟨gW _,λj hj=>getD_none hj⟩|exact qM hx (.inl ω)|exact qM hx (.inr ω)|((conv=>whnf);exact⟨x-1,⟨⟨aaf hx.1 ω (by simp only[uJ];omega),trivial⟩,⟨⟩,⟨ω,tY hx.2 (take_zero ω ω)⟩,by show x-1<x;omega⟩⟩)|exact za8⟩
instance aaQ(neg:Bool)(l:List Nat):DenI Tryz.prog 160 [.bool neg,.c (lmc l)] (Lb l) (Z (cO neg (val l))):=⟨λhp=>by
 refine den_len ζ (λhl=>?_);simp only[lenA,lenC,cellsOf,aG,and_true,true_and]at hl
 all_goals refine au Tryz.func160 rfl ?_
 all_goals first
  |((conv=>whnf);refine Sw.Loop.inv (α:=Nat) (λx=>[(0,.bool neg),(1,.c (lmc l)),(4,.ptr 4 0),(5,.int .i64 x)]) (λx=>[(4,.var [.v (.bool false),.sl 1 []])]) (λx=>x<=l.length/\∀j,x<=j->l.getD j 0=0) (λx=>x) l.length ?_ ?_ ?_ (λx hx=>?_))
 all_goals(repeat'((try(conv=>whnf));first
  |(with_reducible first|apply zab|apply zac|refine zad (λ_=>?_) (λ_=>?_))|refine zat (λ_=>?_) (λ_=>?_)|refine zam ?_ ?_|(with_reducible refine zak ?_ ?_)|apply zaq))
 all_goals(try apply zar)
 all_goals first|(show SubE _ _;repeat'(first|exact trivial|refine And.intro ?_ ?_))|(show SubB _ _;repeat'(first|exact trivial|refine And.intro ?_ ?_))|skip
 all_goals(try rfl)
 all_goals(try simp(disch:=omega) only[aG,kM,dh,rV,aS,bD,wu64,uN,qF,JY,iw,iq]at *)
 all_goals first
  |(subst neg;exact sg1 hp hx (.inl ω) rfl (by simp only[uJ];omega) rfl)|(subst neg;exact sg0 hp hx (.inl ω) rfl (by simp only[uJ];omega))|(subst neg;exact sg1 hp hx (.inr ω) rfl (by simp only[uJ];omega) rfl)|(subst neg;exact sg0 hp hx (.inr ω) rfl (by simp only[uJ];omega))|exact⟨gW _,λj hj=>getD_none hj⟩|rfl|((conv=>whnf);exact⟨x-1,⟨⟨rfl,rfl,rfl,YU ω ω,trivial⟩,⟨rfl,trivial⟩,⟨ω,tY hx.2 ω⟩,by show x-1<x;omega⟩⟩)|exact za8⟩
instance X9(neg:Bool)(l:List Nat):DenI Tryz.prog 107 [.bool neg,.c (lmc l)] (Lb l) (Z (cO neg (val l))):=⟨λhp=>by
 refine den_len ζ (λhl=>?_);simp only[lenA,lenC,cellsOf,aG,and_true,true_and]at hl
 all_goals refine au Tryz.func107 rfl ?_
 all_goals(repeat'((try(conv=>whnf));first
  |apply zaf|(with_reducible first|apply zab|apply zac)|refine zat (λ_=>?_) (λ_=>?_)|apply zaq))
 all_goals first
  |(subst neg;exact zE1 hp (by rw[aG]))|(subst neg;exact zE0 hp)⟩
instance X8(a b:List Nat):DenI Tryz.prog 198 [.c (lmc a),.c (lmc b)] (Lb a/\Lb b) (.int .i64 (dL (val a) (val b))):=⟨λhp=>by
 refine den_len ζ (λhl=>?_);simp only[lenA,lenC,cellsOf,aG,and_true,true_and]at hl;have ha:=dI a;have hb:=dI b
 all_goals refine au Tryz.func198 rfl ?_
 all_goals(repeat'((try(conv=>whnf));first
  |apply zaf|(with_reducible first|refine zad (λ_=>?_) (λ_=>?_)|refine zae (λ_=>?_) (λ_=>?_))|apply zaq))
 all_goals first
  |((conv=>whnf);refine Sw.Loop.inv (α:=Nat) (λx=>[(0,.c (lmc (ah a))),(1,.c (lmc (ah b))),(5,.int .i64 ((x:Int)-1))]) (λx=>[]) (λx=>x<=(ah a).length/\∀j,x<=j->(ah a).getD j 0=(ah b).getD j 0) (λx=>x) ((ah a).length) ?_ ?_ ?_ (λx hx=>?_))|skip
 all_goals(repeat'((try(conv=>whnf));first
  |(with_reducible refine zad (λ_=>?_) (λ_=>?_))|refine zas ζ ?_|(with_reducible refine zak ?_ ?_)|apply zaq))
 all_goals(try apply zar)
 all_goals first|(show SubE _ _;repeat'(first|exact trivial|refine And.intro ?_ ?_))|(show SubB _ _;repeat'(first|exact trivial|refine And.intro ?_ ?_))|skip
 all_goals(try rfl)
 all_goals(try simp(disch:=omega) only[aG,kM,dh,rV,aS,bD,wu64,uN,qF,JY,iw,iq]at *)
 all_goals(try simp only[<-dn a,<-dn b])
 all_goals first
  |exact Hq (dB hp.1) (dB hp.2) ω|exact II (dB hp.1) (dB hp.2) ω|exact UZ (dB hp.1) (dB hp.2) hx ω ω ω|exact TT (dB hp.1) (dB hp.2) hx ω ω ω|exact TW hx ω ω|exact fz2 ω|((conv=>whnf);exact⟨x-1,⟨⟨rfl,rfl,qE ω ω,trivial⟩,⟨⟩,⟨ω,agree_step hx.2 ω⟩,by show x-1<x;omega⟩⟩)|rfl|exact za8⟩
instance XW(a b:List Nat):DenI Tryz.prog 106 [.c (lmc a),.c (lmc b)] (CanL a/\CanL b) (.int .i64 (dL (val a) (val b))):=⟨λhp=>by
 refine den_len ζ (λhl=>?_);simp only[lenA,lenC,cellsOf,aG,and_true,true_and]at hl
 all_goals refine au Tryz.func106 rfl ?_
 all_goals(repeat'((try(conv=>whnf));first
  |apply zaf|refine zaa ?_ ?_|(with_reducible first|apply zab|apply zac|refine zad (λ_=>?_) (λ_=>?_)|refine zae (λ_=>?_) (λ_=>?_))|refine zat (λ_=>?_) (λ_=>?_)|refine zah ?_ ?_|refine zas ζ ?_|refine zal ?_ ?_|refine zam ?_ ?_|(with_reducible first|refine zak ?_ ?_|apply zaj|apply zai)|apply zaq))
 all_goals(try apply zar)
 all_goals first
  |((conv=>whnf);refine Sw.Loop.inv (α:=Nat) (λx=>[(0,.c (lmc (a))),(1,.c (lmc (b))),(5,.int .i64 ((x:Int)-1))]) (λx=>[]) (λx=>x<=(a).length/\∀j,x<=j->(a).getD j 0=(b).getD j 0) (λx=>x) ((a).length) ?_ ?_ ?_ (λx hx=>?_))|skip
 all_goals(repeat'((try(conv=>whnf));first
  |apply zaf|refine zaa ?_ ?_|(with_reducible first|apply zab|apply zac|refine zad (λ_=>?_) (λ_=>?_)|refine zae (λ_=>?_) (λ_=>?_))|refine zat (λ_=>?_) (λ_=>?_)|refine zah ?_ ?_|refine zas ζ ?_|refine zal ?_ ?_|refine zam ?_ ?_|(with_reducible first|refine zak ?_ ?_|apply zaj|apply zai)|apply zaq))
 all_goals(try apply zar)
 all_goals first|(show SubE _ _;repeat'(first|exact trivial|refine And.intro ?_ ?_))|(show SubB _ _;repeat'(first|exact trivial|refine And.intro ?_ ?_))|skip
 all_goals(try rfl)
 all_goals(try simp(disch:=omega) only[aG,kM,dh,rV,aS,bD,wu64,uN,qF,JY,iw,iq]at *)
 all_goals first
  |exact hp|exact Hq hp.1 hp.2 ω|exact II hp.1 hp.2 ω|exact UZ hp.1 hp.2 hx ω ω ω|exact TT hp.1 hp.2 hx ω ω ω|exact TW hx ω ω|exact fz2 ω|exact XG ω|((conv=>whnf);exact⟨x-1,⟨⟨rfl,rfl,qE ω ω,trivial⟩,⟨⟩,⟨ω,agree_step hx.2 ω⟩,by show x-1<x;omega⟩⟩)|(rw[aS ω ω])|rfl|exact za8|skip⟩
instance aa0(a b:List Nat):DenI Tryz.prog 161 [.c (lmc a),.c (lmc b)] (a.length<=1000000000000/\b.length<=1000000000000/\Lb a/\Lb b) (.c (lmc (pad (a.length+b.length) (val a*val b)))):=⟨λhp=>by
 refine den_len ζ (λhl=>?_);simp only[lenA,lenC,cellsOf,aG,and_true,true_and]at hl
 all_goals refine au Tryz.func161 rfl ?_
 all_goals(repeat'((try(conv=>whnf));first
  |refine zal ?_ ?_))
 all_goals(try apply zar)
 all_goals first
  |((conv=>whnf);refine Sw.Loop.inv (α:=List Nat×Nat) (λx=>[(1,.c (lmc b)),(5,.gs 17 (a.length+b.length)),(18,.c (lmc a)),(19,.int .i64 a.length),(20,.int .i64 (x.2:Nat))]) (λx=>[(17,.grow 154 1 (x.1.map λx=>[.v (u32 x)]))]) (λx=>x.2<=a.length/\x.1.length=a.length+b.length/\Lb x.1/\val (x.1.take (x.2+b.length))=val (a.take x.2)*val b) (λx=>a.length-x.2) (List.replicate (a.length+b.length) 0,0) ?_ ?_ ?_ (λx hx=>?_))|skip
 all_goals(repeat'((try(conv=>whnf));first
  |(with_reducible refine zad (λ_=>?_) (λ_=>?_))|refine zah ?_ ?_|(with_reducible refine zak ?_ ?_)|apply zaq))
 all_goals(try apply zar)
 all_goals first
  |((conv=>whnf);refine Sw.Loop.inv (α:=List Nat×Nat×Nat) (λy=>[(1,.c (lmc b)),(5,.gs 17 (a.length+b.length)),(6,.int .i64 (x.2:Nat)),(7,.int .u32 (a.getD x.2 0:Nat)),(8,.int .u64 (y.2.1:Nat)),(18,.c (lmc a)),(19,.int .i64 a.length),(20,.int .i64 (x.2:Nat)),(25,.c (lmc b)),(26,.int .i64 b.length),(27,.int .i64 (y.2.2:Nat))]) (λy=>[(17,.grow 154 1 (y.1.map λx=>[.v (u32 x)]))]) (λy=>y.2.2<=b.length/\y.1.length=a.length+b.length/\Lb y.1/\y.2.1<1000000000/\val (y.1.take (x.2+b.length))+1000000000^(x.2+y.2.2)*y.2.1=val (a.take x.2)*val b+1000000000^x.2*(a.getD x.2 0*val (b.take y.2.2))) (λy=>b.length-y.2.2) (x.1,0,0) ?_ ?_ ?_ (λy hy=>?_))|skip
 all_goals(repeat'((try(conv=>whnf));first
  |(with_reducible refine zad (λ_=>?_) (λ_=>?_))|refine zah ?_ ?_|(with_reducible refine zak ?_ ?_)))
 all_goals(try apply zar)
 all_goals first|(show SubE _ _;repeat'(first|exact trivial|refine And.intro ?_ ?_))|(show SubB _ _;repeat'(first|exact trivial|refine And.intro ?_ ?_))|skip
 all_goals(try rfl)
 all_goals(try simp(disch:=omega) only[aG,rV,dh,aS,sG]at *)
 all_goals first
  |omega|rfl|exact kR _ _|exact⟨ω,η,fD _,Ih _ _ _ _⟩|exact⟨ω,hx.2.1,hx.2.2.1,ω,by simp[val,hx.2.2.2]⟩|exact XT hx.2.2.1 hx.2.1 (yU hx.2.1 ω hx.2.2.2)|(have ga:=hp.2.2.1.getD x.2;have gb:=hp.2.2.2.getD y.2.2;have go:=hy.2.2.1.getD (x.2+y.2.2);obtain⟨c1,c2⟩:=yu ga gb go hy.2.2.2.1;obtain⟨h1,h2,h3,h4,h5⟩:=hy;(conv=>whnf);exact⟨(y.1.set (x.2+y.2.2) ((y.1.getD (x.2+y.2.2) 0+a.getD x.2 0*b.getD y.2.2 0+y.2.1)%1000000000),(y.1.getD (x.2+y.2.2) 0+a.getD x.2 0*b.getD y.2.2 0+y.2.1)/1000000000,y.2.2+1),⟨⟨rfl,rfl,rfl,rfl,iS (by(try simp(disch:=omega) only[bD,wu64,aS,iw,iq,sG])<;>omega),rfl,rfl,rfl,rfl,rfl,aH ω,trivial⟩,⟨qp (by(try simp(disch:=omega) only[bD,wu64,aS,iw,iq,sG])<;>omega) (by(try simp(disch:=omega) only[bD,wu64,aS,iw,iq,sG])<;>omega),trivial⟩,⟨by show y.2.2+1<=_;omega,by simp only[kF];exact h2,cZ h3 (mY _ ψ),c2,qj ω ω h5 rfl rfl rfl⟩,by show _-(y.2.2+1)<_-y.2.2;omega⟩⟩)|(obtain⟨h1,h2,h3,h4,h5⟩:=hy;(conv=>whnf);exact⟨(y.1.set (x.2+b.length) y.2.1,x.2+1),⟨⟨rfl,rfl,rfl,rfl,aH ω,trivial⟩,⟨qp (by(try simp(disch:=omega) only[bD,wu64,aS,iw,iq,sG])<;>omega) (by(try simp(disch:=omega) only[bD,wu64,aS,iw,iq,sG])<;>omega),trivial⟩,⟨by show x.2+1<=_;omega,by simp only[kF];exact h2,cZ h3 h4,tu ω (by rw[show y.2.2=b.length by omega]at h5;exact h5)⟩,by show _-(x.2+1)<_-x.2;omega⟩⟩)⟩
instance aaD(a b:List Nat):DenI Tryz.prog 108 [.c (lmc a),.c (lmc b)] (a.length<=1000000000000/\b.length<=1000000000000/\Lb a/\Lb b) (.c (lmc (lim (val a*val b)))):=⟨λhp=>by
 refine den_len ζ (λhl=>?_);simp only[lenA,lenC,cellsOf,aG,and_true,true_and]at hl
 all_goals refine au Tryz.func108 rfl ?_
 all_goals(repeat'((try(conv=>whnf));first
  |apply zaf|refine zaa ?_ ?_|(with_reducible first|apply zab|apply zac|refine zad (λ_=>?_) (λ_=>?_)|refine zae (λ_=>?_) (λ_=>?_))|refine zat (λ_=>?_) (λ_=>?_)|refine zah ?_ ?_|refine zas ζ ?_|refine zal ?_ ?_|refine zam ?_ ?_|(with_reducible first|refine zak ?_ ?_|apply zaj|apply zai)|apply zaq))
 all_goals(try apply zar)
 all_goals first
  |((conv=>whnf);refine Sw.Loop.inv (α:=List Nat×Nat) (λx=>[(0,.c (lmc a)),(1,.c (lmc b)),(5,.gs 14 (a.length+b.length)),(6,.int .i64 (x.2:Nat))]) (λx=>[(14,.grow 154 1 (x.1.map λx=>[.v (u32 x)]))]) (λx=>x.2<=a.length/\x.1.length=a.length+b.length/\Lb x.1/\val (x.1.take (x.2+b.length))=val (a.take x.2)*val b) (λx=>a.length-x.2) (List.replicate (a.length+b.length) 0,0) ?_ ?_ ?_ (λx hx=>?_))|skip
 all_goals(repeat'((try(conv=>whnf));first
  |apply zaf|refine zaa ?_ ?_|(with_reducible first|apply zab|apply zac|refine zad (λ_=>?_) (λ_=>?_)|refine zae (λ_=>?_) (λ_=>?_))|refine zat (λ_=>?_) (λ_=>?_)|refine zah ?_ ?_|refine zas ζ ?_|refine zal ?_ ?_|refine zam ?_ ?_|(with_reducible first|refine zak ?_ ?_|apply zaj|apply zai)|apply zaq))
 all_goals(try apply zar)
 all_goals first
  |((conv=>whnf);refine Sw.Loop.inv (α:=List Nat×Nat×Nat) (λy=>[(0,.c (lmc a)),(1,.c (lmc b)),(5,.gs 14 (a.length+b.length)),(6,.int .i64 (x.2:Nat)),(7,.int .u64 (y.2.1:Nat)),(8,.int .i64 (y.2.2:Nat))]) (λy=>[(14,.grow 154 1 (y.1.map λx=>[.v (u32 x)]))]) (λy=>y.2.2<=b.length/\y.1.length=a.length+b.length/\Lb y.1/\y.2.1<1000000000/\val (y.1.take (x.2+b.length))+1000000000^(x.2+y.2.2)*y.2.1=val (a.take x.2)*val b+1000000000^x.2*(a.getD x.2 0*val (b.take y.2.2))) (λy=>b.length-y.2.2) (x.1,0,0) ?_ ?_ ?_ (λy hy=>?_))|skip
 all_goals(repeat'((try(conv=>whnf));first
  |apply zaf|refine zaa ?_ ?_|(with_reducible first|apply zab|apply zac|refine zad (λ_=>?_) (λ_=>?_)|refine zae (λ_=>?_) (λ_=>?_))|refine zat (λ_=>?_) (λ_=>?_)|refine zah ?_ ?_|refine zas ζ ?_|refine zal ?_ ?_|refine zam ?_ ?_|(with_reducible first|refine zak ?_ ?_|apply zaj|apply zai)|apply zaq))
 all_goals(try apply zar)
 all_goals first|(show SubE _ _;repeat'(first|exact trivial|refine And.intro ?_ ?_))|(show SubB _ _;repeat'(first|exact trivial|refine And.intro ?_ ?_))|skip
 all_goals(try rfl)
 all_goals(try simp(disch:=omega) only[aG,rV,dh,aS,sG]at *)
 all_goals first
  |omega|rfl|exact kR _ _|(constructor<;>omega)|exact aH ω|(simp(disch:=omega) only[aG,aS];omega)|exact⟨ω,η,fD _,Ih _ _ _ _⟩|exact⟨ω,hx.2.1,hx.2.2.1,ω,by simp[val,hx.2.2.2]⟩|exact lE (by rw[<-yU hx.2.1 ω hx.2.2.2,gZ _ hx.2.2.1])|(have ga:=hp.2.2.1.getD x.2;have gb:=hp.2.2.2.getD y.2.2;have go:=hy.2.2.1.getD (x.2+y.2.2);obtain⟨c1,c2⟩:=yu ga gb go hy.2.2.2.1;obtain⟨h1,h2,h3,h4,h5⟩:=hy;(conv=>whnf);exact⟨(y.1.set (x.2+y.2.2) ((y.1.getD (x.2+y.2.2) 0+a.getD x.2 0*b.getD y.2.2 0+y.2.1)%1000000000),(y.1.getD (x.2+y.2.2) 0+a.getD x.2 0*b.getD y.2.2 0+y.2.1)/1000000000,y.2.2+1),⟨⟨rfl,rfl,rfl,rfl,iS (by(try simp(disch:=omega) only[bD,wu64,aS,iw,iq,sG])<;>omega),aH ω,trivial⟩,⟨qp (by(try simp(disch:=omega) only[bD,wu64,aS,iw,iq,sG])<;>omega) (by(try simp(disch:=omega) only[bD,wu64,aS,iw,iq,sG])<;>omega),trivial⟩,⟨by show y.2.2+1<=_;omega,by simp only[kF];exact h2,cZ h3 (mY _ ψ),c2,qj ω ω h5 rfl rfl rfl⟩,by show _-(y.2.2+1)<_-y.2.2;omega⟩⟩)|(obtain⟨h1,h2,h3,h4,h5⟩:=hy;(conv=>whnf);exact⟨(y.1.set (x.2+b.length) y.2.1,x.2+1),⟨⟨rfl,rfl,rfl,aH ω,trivial⟩,⟨qp (by(try simp(disch:=omega) only[bD,wu64,aS,iw,iq,sG])<;>omega) (by(try simp(disch:=omega) only[bD,wu64,aS,iw,iq,sG])<;>omega),trivial⟩,⟨by show x.2+1<=_;omega,by simp only[kF];exact h2,cZ h3 h4,tu ω (by rw[show y.2.2=b.length by omega]at h5;exact h5)⟩,by show _-(x.2+1)<_-x.2;omega⟩⟩)|skip⟩
instance aav(l:List Nat):DenI Tryz.prog 154 [.c (lmc l)] (l.length<=1000000000000/\Lb l/\val l<18446744073709551616) (.int .u64 ((val l:Nat):Int)):=⟨λhp=>by
 refine den_len ζ (λhl=>?_);simp only[lenA,lenC,cellsOf,aG,and_true,true_and]at hl
 all_goals refine au Tryz.func154 rfl ?_
 all_goals(repeat'((try(conv=>whnf));first
  |apply zaf|refine zaa ?_ ?_|(with_reducible first|apply zab|apply zac|refine zad (λ_=>?_) (λ_=>?_)|refine zae (λ_=>?_) (λ_=>?_))|refine zat (λ_=>?_) (λ_=>?_)|refine zah ?_ ?_|refine zas ζ ?_|refine zal ?_ ?_|refine zam ?_ ?_|(with_reducible first|refine zak ?_ ?_|apply zaj|apply zai)|apply zaq))
 all_goals(try apply zar)
 all_goals first
  |((conv=>whnf);refine Sw.Loop.inv (α:=Nat) (λx=>[(0,.c (lmc l)),(3,.int .u64 (val (l.drop x):Nat)),(4,.int .i64 ((x:Int)-1))]) (λx=>[]) (λx=>x<=l.length) (λx=>x) l.length ?_ ?_ ?_ (λx hx=>?_))|skip
 all_goals(repeat'((try(conv=>whnf));first
  |apply zaf|refine zaa ?_ ?_|(with_reducible first|apply zab|apply zac|refine zad (λ_=>?_) (λ_=>?_)|refine zae (λ_=>?_) (λ_=>?_))|refine zat (λ_=>?_) (λ_=>?_)|refine zah ?_ ?_|refine zas ζ ?_|refine zal ?_ ?_|refine zam ?_ ?_|(with_reducible first|refine zak ?_ ?_|apply zaj|apply zai)|apply zaq))
 all_goals(try apply zar)
 all_goals first|(show SubE _ _;repeat'(first|exact trivial|refine And.intro ?_ ?_))|(show SubB _ _;repeat'(first|exact trivial|refine And.intro ?_ ?_))|skip
 all_goals(try rfl)
 all_goals(try simp(disch:=omega) only[aG,kM,dh,rV,aS,bD,wu64,uN,qF,JY,iw,iq]at *)
 all_goals first
  |omega|rfl|exact kR _ _|(constructor<;>omega)|(rw[dN (gW _)];rfl)|(refine iE ?_;rw[show x=0 by omega,J3])|(have hd:=lM (l:=l) (k:=x) ω hx;have hle:=uH l (x-1);have hg:=hp.2.1.getD (x-1);((conv=>whnf);exact⟨x-1,⟨⟨rfl,iS (by(try simp(disch:=omega) only[bD,wu64,aS,iw,iq,qF,sG,Ia,Ii,DF,EF,FK])<;>omega),qE ω ω,trivial⟩,⟨⟩,ω,by show x-1<x;omega⟩⟩))|skip⟩
instance aan(n:Nat):DenI Tryz.prog 117 [.int .u64 (n:Nat)] (n<18446744073709551616) (.c (lmc (lim n))):=⟨λhp=>by
 refine den_len ζ (λhl=>?_);simp only[lenA,lenC,cellsOf,aG,and_true,true_and]at hl
 all_goals refine au Tryz.func117 rfl ?_
 all_goals first
  |((conv=>whnf);refine Sw.Loop.ghost 3 11 154 1 ?_ rfl rfl rfl ψ)
 all_goals first
  |((conv=>whnf);refine Sw.Loop.inv (α:=List Nat×Nat) (λx=>[(0,.int .u64 (x.2:Nat)),(3,.gs 11 x.1.length)]) (λx=>[(11,.grow 154 1 (x.1.map λx=>[.v (u32 x)]))]) (λx=>x.2<=n/\lim n=x.1++lim x.2) (λx=>x.2) ([],n) ?_ ?_ ?_ (λx hx=>?_))
 all_goals(repeat'((try(conv=>whnf));first
  |(with_reducible refine zad (λ_=>?_) (λ_=>?_))|refine zah ?_ ?_|apply zaq))
 all_goals(try apply zar)
 all_goals first|(show SubE _ _;repeat'(first|exact trivial|refine And.intro ?_ ?_))|(show SubB _ _;repeat'(first|exact trivial|refine And.intro ?_ ?_))|skip
 all_goals(try rfl)
 all_goals(try simp only[aG,rV,dh]at *)
 all_goals first
  |omega|exact⟨gW _,rfl⟩|exact JE hx ω|(have:=I7 hp hx ω;simp only[bF,aG,bn,bG];omega)|(have h2:=hx.1;((conv=>whnf);exact⟨(x.1++[x.2%1000000000],x.2/1000000000),⟨⟨iS (by(try simp(disch:=omega) only[bD,wu64,aS,iw,iq,qF,sG,Ia,Ii,DF,EF,FK])<;>omega),TR η,trivial⟩,⟨Cm (by(try simp(disch:=omega) only[bD,wu64,aS,iw,iq,qF,sG,Ia,Ii,DF,EF,FK])<;>omega),trivial⟩,(F5 hx ω),by show x.2/1000000000<x.2;omega⟩⟩))⟩
instance aa6(n:Nat):DenI Tryz.prog 196 [.int .u64 (n:Nat)] (n<18446744073709551616) (.c (lmc (pad 3 n))):=⟨λhp=>by
 refine den_len ζ (λhl=>?_);simp only[lenA,lenC,cellsOf,aG,and_true,true_and]at hl
 all_goals refine au Tryz.func196 rfl ?_
 all_goals(repeat'((try(conv=>whnf));first
  |refine zah ?_ ?_|apply zaq))
 all_goals(try apply zar)
 all_goals first
  |omega|exact Jp ω (by(try simp(disch:=omega) only[bD,wu64,aS,iw,iq,qF,sG,Ia,Ii,DF,EF,FK])<;>omega) (by(try simp(disch:=omega) only[bD,wu64,aS,iw,iq,qF,sG,Ia,Ii,DF,EF,FK])<;>omega) (by(try simp(disch:=omega) only[bD,wu64,aS,iw,iq,qF,sG,Ia,Ii,DF,EF,FK])<;>omega)⟩
instance adY(a:Int):DenI Tryz.prog 195 [Z a] (True) (.tup [.int .u64 ((if sz a<=2 then a.natAbs else 0:Nat):Int),.bool (decide (sz a<=2))]):=⟨λhp=>by
 refine den_len ζ (λhl=>?_);simp only[lenA,lenC,cellsOf,aG,and_true,true_and]at hl
 all_goals refine au Tryz.func195 rfl ?_
 all_goals(repeat'((try(conv=>whnf));first
  |(with_reducible refine zad (λ_=>?_) (λ_=>?_))|refine zas ζ ?_|(with_reducible refine zak ?_ ?_)|apply zaq))
 all_goals(try apply zar)
 all_goals(try simp only[aG,rV,dh]at *)
 all_goals(have g0:=(aI a.natAbs).getD 0;have g1:=(aI a.natAbs).getD 1)
 all_goals first
  |omega|exact Vt ω|exact VP ω (by(try simp(disch:=omega) only[bD,wu64,aS,iw,iq,qF,sG,Ia,Ii,DF,EF,FK])<;>omega)|exact XV ω (by(try simp(disch:=omega) only[bD,wu64,aS,iw,iq,qF,sG,Ia,Ii,DF,EF,FK])<;>omega)|exact WT ω⟩
instance Ym(a:List Nat)(b:Nat):DenI Tryz.prog 231 [.c (lmc a),.int .u32 (b:Nat)] (a.length<=1000000000000/\Lb a/\0<b/\b<1000000000) (.tup [.c (lmc (pad a.length (val a / b))),.c (lmc [val a % b])]):=⟨λhp=>by
 refine den_len ζ (λhl=>?_);simp only[lenA,lenC,cellsOf,aG,and_true,true_and]at hl
 all_goals refine au Tryz.func231 rfl ?_
 all_goals(repeat'((try(conv=>whnf));first
  |refine zal ?_ ?_))
 all_goals(try apply zar)
 all_goals first
  |((conv=>whnf);refine Sw.Loop.inv (α:=List Nat×Nat×Nat) (λx=>[(0,.c (lmc a)),(1,.int .u32 (b:Nat)),(6,.gs 12 a.length),(7,.int .u64 (x.2.1:Nat)),(8,.int .i64 ((x.2.2:Int)-1))]) (λx=>[(12,.grow 154 1 (x.1.map λx=>[.v (u32 x)]))]) (λx=>x.2.2<=a.length/\x.1.length=a.length/\Lb x.1/\x.2.1<b/\val (a.drop x.2.2)=b*val (x.1.drop x.2.2)+x.2.1) (λx=>x.2.2) (List.replicate a.length 0,0,a.length) ?_ ?_ ?_ (λx hx=>?_))|skip
 all_goals(repeat'((try(conv=>whnf));first
  |(with_reducible refine zad (λ_=>?_) (λ_=>?_))|refine zah ?_ ?_|refine zas ζ ?_|(with_reducible refine zak ?_ ?_)|apply zaq))
 all_goals(try apply zar)
 all_goals first|(show SubE _ _;repeat'(first|exact trivial|refine And.intro ?_ ?_))|(show SubB _ _;repeat'(first|exact trivial|refine And.intro ?_ ?_))|skip
 all_goals(try rfl)
 all_goals(try simp(disch:=omega) only[aG,kM,dh,rV,aS,bD,wu64,uN,qF,JY,iw,iq]at *)
 all_goals first
  |omega|rfl|exact kR _ _|exact⟨ω,η,fD _,ω,by rw[dN (gW _),dN η];simp⟩|(have h2:=hx.2.2.2.2;rw[show x.2.2=0 by omega]at h2;exact Sz hp.2.2.1 hx.2.2.2.1 hx.2.1 hx.2.2.1 h2)|(have ga:=hp.2.1.getD (x.2.2-1);have c4:=Int.natCast_nonneg ((x.2.1*1000000000+a.getD (x.2.2-1) 0)/b);obtain⟨c1,c2,c3⟩:=yT hx.2.2.2.1 hp.2.2.2 ga (t:=_) rfl;obtain⟨h1,h2,h3,h4,h5⟩:=hx;((conv=>whnf);exact⟨(x.1.set (x.2.2-1) ((x.2.1*1000000000+a.getD (x.2.2-1) 0)/b),(x.2.1*1000000000+a.getD (x.2.2-1) 0)%b,x.2.2-1),⟨⟨rfl,rfl,rfl,iS (by(try simp(disch:=omega) only[bD,wu64,aS,iw,iq,qF,sG,Ia,Ii,DF,EF,FK])<;>omega),qE ω ω,trivial⟩,⟨qp (by(try simp(disch:=omega) only[bD,wu64,aS,iw,iq,qF,sG,Ia,Ii,DF,EF,FK])<;>omega) (by(try simp(disch:=omega) only[bD,wu64,aS,iw,iq,qF,sG,Ia,Ii,DF,EF,FK])<;>omega),trivial⟩,⟨by show x.2.2-1<=_;omega,by simp only[kF];exact h2,cZ h3 c1,c2,uw ω h1 ω h5 rfl rfl⟩,by show x.2.2-1<x.2.2;omega⟩⟩))⟩
instance(b:Nat):DenI Tryz.prog 142 [.c (.sl 1 [[.v (.int .u32 (b:Nat))]])] True (.c (lmc (ah [b]))):=⟨λhp=>(inferInstance:DenI Tryz.prog 142 [.c (lmc [b])] _ _).den hp⟩
instance afm(a:List Nat)(b:Nat):DenI Tryz.prog 194 [.c (lmc a),.int .u32 (b:Nat)] (a.length<=1000000000000/\Lb a/\b<1000000000) (.c (lmc (lim (val a*b)))):=⟨λhp=>by
 refine den_len ζ (λhl=>?_);simp only[lenA,lenC,cellsOf,aG,and_true,true_and]at hl
 all_goals refine au Tryz.func194 rfl ?_
 all_goals(repeat'((try(conv=>whnf));first
  |apply zaf|refine zaa ?_ ?_|(with_reducible first|apply zab|apply zac|refine zad (λ_=>?_) (λ_=>?_)|refine zae (λ_=>?_) (λ_=>?_))|refine zat (λ_=>?_) (λ_=>?_)|refine zah ?_ ?_|refine zas ζ ?_|refine zal ?_ ?_|refine zam ?_ ?_|(with_reducible first|refine zak ?_ ?_|apply zaj|apply zai)|apply zaq))
 all_goals(try apply zar)
 all_goals first
  |exact⟨hp.1,by have:=dI [b];simp at this;omega,hp.2.1,jS (Lb.cons hp.2.2 Lb.nil)⟩|(refine lE ?_;rw[dn];simp[val])|skip⟩
instance aa3(a b:List Nat):DenI Tryz.prog 143 [.c (lmc a),.c (lmc b)] (a.length<=1000000000000/\b.length<=1000000000000/\Lb a/\Lb b) (.c (lmc (lim (val a+val b)))):=⟨λhp=>by
 refine den_len ζ (λhl=>?_);simp only[lenA,lenC,cellsOf,aG,and_true,true_and]at hl
 all_goals refine au Tryz.func143 rfl ?_
 all_goals(repeat'((try(conv=>whnf));first
  |apply zaf|refine zaa ?_ ?_|(with_reducible first|apply zab|apply zac|refine zad (λ_=>?_) (λ_=>?_)|refine zae (λ_=>?_) (λ_=>?_))|refine zat (λ_=>?_) (λ_=>?_)|refine zah ?_ ?_|refine zas ζ ?_|refine zal ?_ ?_|refine zam ?_ ?_|(with_reducible first|refine zak ?_ ?_|apply zaj|apply zai)|apply zaq))
 all_goals(try apply zar)
 all_goals(try simp(disch:=omega) only[aG,kM,dh,rV,aS,bD,wu64,uN,qF,JY,iw,iq]at *)
 all_goals first
  |(have hh:b.length<=a.length:=ω;(conv=>whnf);refine Sw.Loop.inv (α:=List Nat×Nat×Nat) (λx=>[(0,.c (lmc a)),(1,.c (lmc b)),(5,.gs 18 (a.length+1)),(6,.int .u32 (x.2.1:Nat)),(7,.int .i64 (x.2.2:Nat))]) (λx=>[(18,.grow 154 1 (x.1.map λx=>[.v (u32 x)]))]) (λx=>x.2.2<=a.length/\x.1.length=a.length+1/\Lb x.1/\x.2.1<=1/\val (x.1.take x.2.2)+1000000000^x.2.2*x.2.1=val (a.take x.2.2)+val (b.take x.2.2)) (λx=>a.length-x.2.2) (List.replicate (a.length+1) 0,0,0) ?_ ?_ ?_ (λx hx=>?_))|(have hh:a.length<=b.length:=ω;(conv=>whnf);refine Sw.Loop.inv (α:=List Nat×Nat×Nat) (λx=>[(0,.c (lmc b)),(1,.c (lmc a)),(5,.gs 18 (b.length+1)),(6,.int .u32 (x.2.1:Nat)),(7,.int .i64 (x.2.2:Nat))]) (λx=>[(18,.grow 154 1 (x.1.map λx=>[.v (u32 x)]))]) (λx=>x.2.2<=b.length/\x.1.length=b.length+1/\Lb x.1/\x.2.1<=1/\val (x.1.take x.2.2)+1000000000^x.2.2*x.2.1=val (b.take x.2.2)+val (a.take x.2.2)) (λx=>b.length-x.2.2) (List.replicate (b.length+1) 0,0,0) ?_ ?_ ?_ (λx hx=>?_))|skip
 all_goals(repeat'((try(conv=>whnf));first
  |apply zaf|refine zaa ?_ ?_|(with_reducible first|apply zab|apply zac|refine zad (λ_=>?_) (λ_=>?_)|refine zae (λ_=>?_) (λ_=>?_))|refine zat (λ_=>?_) (λ_=>?_)|refine zah ?_ ?_|refine zas ζ ?_|refine zal ?_ ?_|refine zam ?_ ?_|(with_reducible first|refine zak ?_ ?_|apply zaj|apply zai)|apply zaq))
 all_goals(try apply zar)
 all_goals first|(show SubE _ _;repeat'(first|exact trivial|refine And.intro ?_ ?_))|(show SubB _ _;repeat'(first|exact trivial|refine And.intro ?_ ?_))|skip
 all_goals(try rfl)
 all_goals(try simp only[aG,rV,dh]at *)
 all_goals first
  |omega|rfl|exact kR _ _|(constructor<;>omega)|(obtain⟨h1,h2,h3,h4,h5⟩:=hx;have ga:=hp.2.2.1.getD x.2.2;have gb:=hp.2.2.2.getD x.2.2;have gz:=getD_none (l:=b) (k:=x.2.2) ω;(conv=>whnf);exact⟨(x.1.set x.2.2 ((x.2.1+a.getD x.2.2 0+b.getD x.2.2 0)%1000000000),(x.2.1+a.getD x.2.2 0+b.getD x.2.2 0)/1000000000,x.2.2+1),⟨⟨rfl,rfl,rfl,iS (by(try simp(disch:=omega) only[bD,wu64,aS,iw,iq])<;>omega),aH ω,trivial⟩,⟨qp rfl (by(try simp(disch:=omega) only[bD,wu64,aS,iw,iq])<;>omega),trivial⟩,⟨by show x.2.2+1<=_;omega,by simp only[kF];exact h2,cZ h3 (mY _ ψ),by show _/1000000000<=1;omega,oW ω h5 rfl rfl rfl⟩,by show _-(x.2.2+1)<_-x.2.2;omega⟩⟩)|(obtain⟨h1,h2,h3,h4,h5⟩:=hx;have ga:=hp.2.2.1.getD x.2.2;have gb:=hp.2.2.2.getD x.2.2;(conv=>whnf);exact⟨(x.1.set x.2.2 ((x.2.1+a.getD x.2.2 0+b.getD x.2.2 0)%1000000000),(x.2.1+a.getD x.2.2 0+b.getD x.2.2 0)/1000000000,x.2.2+1),⟨⟨rfl,rfl,rfl,iS (by(try simp(disch:=omega) only[bD,wu64,aS,iw,iq])<;>omega),aH ω,trivial⟩,⟨qp rfl (by(try simp(disch:=omega) only[bD,wu64,aS,iw,iq])<;>omega),trivial⟩,⟨by show x.2.2+1<=_;omega,by simp only[kF];exact h2,cZ h3 (mY _ ψ),by show _/1000000000<=1;omega,oW ω h5 rfl rfl rfl⟩,by show _-(x.2.2+1)<_-x.2.2;omega⟩⟩)|(obtain⟨h1,h2,h3,h4,h5⟩:=hx;have ga:=hp.2.2.2.getD x.2.2;have gb:=hp.2.2.1.getD x.2.2;have gz:=getD_none (l:=a) (k:=x.2.2) ω;(conv=>whnf);exact⟨(x.1.set x.2.2 ((x.2.1+b.getD x.2.2 0+a.getD x.2.2 0)%1000000000),(x.2.1+b.getD x.2.2 0+a.getD x.2.2 0)/1000000000,x.2.2+1),⟨⟨rfl,rfl,rfl,iS (by(try simp(disch:=omega) only[bD,wu64,aS,iw,iq])<;>omega),aH ω,trivial⟩,⟨qp rfl (by(try simp(disch:=omega) only[bD,wu64,aS,iw,iq])<;>omega),trivial⟩,⟨by show x.2.2+1<=_;omega,by simp only[kF];exact h2,cZ h3 (mY _ ψ),by show _/1000000000<=1;omega,oW ω h5 rfl rfl rfl⟩,by show _-(x.2.2+1)<_-x.2.2;omega⟩⟩)|(obtain⟨h1,h2,h3,h4,h5⟩:=hx;have ga:=hp.2.2.2.getD x.2.2;have gb:=hp.2.2.1.getD x.2.2;(conv=>whnf);exact⟨(x.1.set x.2.2 ((x.2.1+b.getD x.2.2 0+a.getD x.2.2 0)%1000000000),(x.2.1+b.getD x.2.2 0+a.getD x.2.2 0)/1000000000,x.2.2+1),⟨⟨rfl,rfl,rfl,iS (by(try simp(disch:=omega) only[bD,wu64,aS,iw,iq])<;>omega),aH ω,trivial⟩,⟨qp rfl (by(try simp(disch:=omega) only[bD,wu64,aS,iw,iq])<;>omega),trivial⟩,⟨by show x.2.2+1<=_;omega,by simp only[kF];exact h2,cZ h3 (mY _ ψ),by show _/1000000000<=1;omega,oW ω h5 rfl rfl rfl⟩,by show _-(x.2.2+1)<_-x.2.2;omega⟩⟩)|exact⟨ω,η,fD _,ω,by simp[val]⟩|skip
 all_goals(try simp only[acS]at *)
 all_goals(repeat'((try(conv=>whnf));first
  |apply zaf|refine zaa ?_ ?_|(with_reducible first|apply zab|apply zac|refine zad (λ_=>?_) (λ_=>?_)|refine zae (λ_=>?_) (λ_=>?_))|refine zat (λ_=>?_) (λ_=>?_)|refine zah ?_ ?_|refine zas ζ ?_|refine zal ?_ ?_|refine zam ?_ ?_|(with_reducible first|refine zak ?_ ?_|apply zaj|apply zai)|apply zaq))
 all_goals(try apply zar)
 all_goals first
  |omega|rfl|exact kR _ _|(constructor<;>omega)|(simp only[aG,kF];omega)|exact La hx.2.1 ω hh hx.2.2.1 hx.2.2.2.1 hx.2.2.2.2 ω|skip⟩
instance aai(a b:List Nat):DenI Tryz.prog 144 [.c (lmc a),.c (lmc b)] (a.length<=1000000000000/\b.length<=1000000000000/\Lb a/\Lb b/\b.length<=a.length/\val b<=val a) (.c (lmc (lim (val a-val b)))):=⟨λhp=>by
 refine den_len ζ (λhl=>?_);simp only[lenA,lenC,cellsOf,aG,and_true,true_and]at hl
 all_goals refine au Tryz.func144 rfl ?_
 all_goals(repeat'((try(conv=>whnf));first
  |refine zal ?_ ?_))
 all_goals(try apply zar)
 all_goals first
  |((conv=>whnf);refine Sw.Loop.inv (α:=List Nat×Nat×Nat) (λx=>[(0,.c (lmc a)),(1,.c (lmc b)),(5,.gs 11 a.length),(6,.int .u32 (x.2.1:Nat)),(7,.int .i64 (x.2.2:Nat))]) (λx=>[(11,.grow 154 1 (x.1.map λx=>[.v (u32 x)]))]) (λx=>x.2.2<=a.length/\x.1.length=a.length/\Lb x.1/\x.2.1<=1/\val (x.1.take x.2.2)+val (b.take x.2.2)=val (a.take x.2.2)+1000000000^x.2.2*x.2.1) (λx=>a.length-x.2.2) (List.replicate a.length 0,0,0) ?_ ?_ ?_ (λx hx=>?_))|skip
 all_goals(repeat'((try(conv=>whnf));first
  |apply zaf|(with_reducible refine zad (λ_=>?_) (λ_=>?_))|refine zah ?_ ?_|(with_reducible refine zak ?_ ?_)|apply zaq))
 all_goals(try apply zar)
 all_goals first|(show SubE _ _;repeat'(first|exact trivial|refine And.intro ?_ ?_))|(show SubB _ _;repeat'(first|exact trivial|refine And.intro ?_ ?_))|skip
 all_goals(try rfl)
 all_goals(try simp only[aG,rV,dh]at *)
 all_goals first
  |omega|rfl|exact kR _ _|exact⟨ω,η,fD _,ω,by simp[val]⟩|exact Ji hx.2.2.1 hp.2.2.1 hx.2.1 ω hp.2.2.2.2.1 hp.2.2.2.2.2 hx.2.2.2.2|(obtain⟨h1,h2,h3,h4,h5⟩:=hx;have ga:=hp.2.2.1.getD x.2.2;have gb:=hp.2.2.2.1.getD x.2.2;have gz:=getD_none (l:=b) (k:=x.2.2) ω;(try simp(disch:=omega) only[bD]at *);(conv=>whnf);exact⟨(x.1.set x.2.2 ((a.getD x.2.2 0+1000000000-x.2.1-b.getD x.2.2 0)%1000000000),1-(a.getD x.2.2 0+1000000000-x.2.1-b.getD x.2.2 0)/1000000000,x.2.2+1),⟨⟨rfl,rfl,rfl,iS (by(try simp(disch:=omega) only[bD,wu64,aS,iw,iq])<;>omega),aH ω,trivial⟩,⟨qp rfl (by(try simp(disch:=omega) only[bD,wu64,aS,iw,iq])<;>omega),trivial⟩,⟨by show x.2.2+1<=_;omega,by simp only[kF];exact h2,cZ h3 (mY _ ψ),by show 1-_/1000000000<=1;omega,lW ω h5 (by dsimp only;omega)⟩,by show _-(x.2.2+1)<_-x.2.2;omega⟩⟩)|(obtain⟨h1,h2,h3,h4,h5⟩:=hx;have ga:=hp.2.2.1.getD x.2.2;have gb:=hp.2.2.2.1.getD x.2.2;(try simp(disch:=omega) only[bD]at *);(conv=>whnf);exact⟨(x.1.set x.2.2 ((a.getD x.2.2 0+1000000000-x.2.1-b.getD x.2.2 0)%1000000000),1-(a.getD x.2.2 0+1000000000-x.2.1-b.getD x.2.2 0)/1000000000,x.2.2+1),⟨⟨rfl,rfl,rfl,iS (by(try simp(disch:=omega) only[bD,wu64,aS,iw,iq])<;>omega),aH ω,trivial⟩,⟨qp rfl (by(try simp(disch:=omega) only[bD,wu64,aS,iw,iq])<;>omega),trivial⟩,⟨by show x.2.2+1<=_;omega,by simp only[kF];exact h2,cZ h3 (mY _ ψ),by show 1-_/1000000000<=1;omega,lW ω h5 (by dsimp only;omega)⟩,by show _-(x.2.2+1)<_-x.2.2;omega⟩⟩)⟩
instance aa1(a b:List Nat):DenI Tryz.prog 236 [.c (lmc a),.c (lmc b)] (a.length<=1000000000000/\b.length<=1000000000000/\Lb a/\Lb b/\b.length<=a.length/\val b<=val a) (.c (lmc (pad a.length (val a-val b)))):=⟨λhp=>by
 refine den_len ζ (λhl=>?_);simp only[lenA,lenC,cellsOf,aG,and_true,true_and]at hl
 all_goals refine au Tryz.func236 rfl ?_
 all_goals(repeat'((try(conv=>whnf));first
  |refine zal ?_ ?_))
 all_goals(try apply zar)
 all_goals first
  |((conv=>whnf);refine Sw.Loop.inv (α:=List Nat×Nat×Nat) (λx=>[(1,.c (lmc b)),(5,.gs 12 a.length),(6,.int .u32 (x.2.1:Nat)),(13,.c (lmc a)),(14,.int .i64 a.length),(15,.int .i64 (x.2.2:Nat))]) (λx=>[(12,.grow 154 1 (x.1.map λx=>[.v (u32 x)]))]) (λx=>x.2.2<=a.length/\x.1.length=a.length/\Lb x.1/\x.2.1<=1/\val (x.1.take x.2.2)+val (b.take x.2.2)=val (a.take x.2.2)+1000000000^x.2.2*x.2.1) (λx=>a.length-x.2.2) (List.replicate a.length 0,0,0) ?_ ?_ ?_ (λx hx=>?_))|skip
 all_goals(repeat'((try(conv=>whnf));first
  |(with_reducible refine zad (λ_=>?_) (λ_=>?_))|refine zah ?_ ?_|(with_reducible refine zak ?_ ?_)|apply zaq))
 all_goals(try apply zar)
 all_goals first|(show SubE _ _;repeat'(first|exact trivial|refine And.intro ?_ ?_))|(show SubB _ _;repeat'(first|exact trivial|refine And.intro ?_ ?_))|skip
 all_goals(try rfl)
 all_goals(try simp only[aG,rV,dh]at *)
 all_goals first
  |omega|rfl|exact kR _ _|(obtain⟨h1,h2,h3,h4,h5⟩:=hx;have ga:=hp.2.2.1.getD x.2.2;have gb:=hp.2.2.2.1.getD x.2.2;have gz:=getD_none (l:=b) (k:=x.2.2) ω;(try simp(disch:=omega) only[bD]at *);(conv=>whnf);exact⟨(x.1.set x.2.2 ((a.getD x.2.2 0+1000000000-x.2.1-b.getD x.2.2 0)%1000000000),1-(a.getD x.2.2 0+1000000000-x.2.1-b.getD x.2.2 0)/1000000000,x.2.2+1),⟨⟨rfl,rfl,iS (by(try simp(disch:=omega) only[bD,wu64,aS,iw,iq])<;>omega),rfl,rfl,aH ω,trivial⟩,⟨qp rfl (by(try simp(disch:=omega) only[bD,wu64,aS,iw,iq])<;>omega),trivial⟩,⟨by show x.2.2+1<=_;omega,by simp only[kF];exact h2,cZ h3 (mY _ ψ),by show 1-_/1000000000<=1;omega,lW ω h5 (by dsimp only;omega)⟩,by show _-(x.2.2+1)<_-x.2.2;omega⟩⟩)|(obtain⟨h1,h2,h3,h4,h5⟩:=hx;have ga:=hp.2.2.1.getD x.2.2;have gb:=hp.2.2.2.1.getD x.2.2;(try simp(disch:=omega) only[bD]at *);(conv=>whnf);exact⟨(x.1.set x.2.2 ((a.getD x.2.2 0+1000000000-x.2.1-b.getD x.2.2 0)%1000000000),1-(a.getD x.2.2 0+1000000000-x.2.1-b.getD x.2.2 0)/1000000000,x.2.2+1),⟨⟨rfl,rfl,iS (by(try simp(disch:=omega) only[bD,wu64,aS,iw,iq])<;>omega),rfl,rfl,aH ω,trivial⟩,⟨qp rfl (by(try simp(disch:=omega) only[bD,wu64,aS,iw,iq])<;>omega),trivial⟩,⟨by show x.2.2+1<=_;omega,by simp only[kF];exact h2,cZ h3 (mY _ ψ),by show 1-_/1000000000<=1;omega,lW ω h5 (by dsimp only;omega)⟩,by show _-(x.2.2+1)<_-x.2.2;omega⟩⟩)|exact⟨ω,η,fD _,ω,by simp[val]⟩|exact XT hx.2.2.1 hx.2.1 (zn hx.2.2.1 hp.2.2.1 hx.2.1 ω hp.2.2.2.2.1 hp.2.2.2.2.2 hx.2.2.2.2)⟩
instance ady(a b:List Nat):DenI Tryz.prog 235 [.c (lmc a),.c (lmc b)] (a.length<=1000000000000/\b.length<=1000000000000/\Lb a/\Lb b) (.c (lmc (pad (max a.length b.length+1) (val a+val b)))):=⟨λhp=>by
 refine den_len ζ (λhl=>?_);simp only[lenA,lenC,cellsOf,aG,and_true,true_and]at hl
 all_goals refine au Tryz.func235 rfl ?_
 all_goals(repeat'((try(conv=>whnf));first
  |(with_reducible refine zad (λ_=>?_) (λ_=>?_))|refine zal ?_ ?_))
 all_goals(try apply zar)
 all_goals(try simp(disch:=omega) only[aG,kM,dh,rV,aS,bD,wu64,uN,qF,JY,iw,iq]at *)
 all_goals first
  |(have hh:b.length<=a.length:=ω;(conv=>whnf);refine Sw.Loop.inv (α:=List Nat×Nat×Nat) (λx=>[(1,.c (lmc b)),(5,.gs 19 x.1.length),(6,.int .u32 (x.2.1:Nat)),(20,.c (lmc a)),(21,.int .i64 a.length),(22,.int .i64 (x.2.2:Nat))]) (λx=>[(19,.grow 154 1 (x.1.map λx=>[.v (u32 x)]))]) (λx=>x.2.2<=a.length/\x.1.length=x.2.2/\Lb x.1/\x.2.1<=1/\val x.1+1000000000^x.2.2*x.2.1=val (a.take x.2.2)+val (b.take x.2.2)) (λx=>a.length-x.2.2) ([],0,0) ?_ ?_ ?_ (λx hx=>?_))|(have hh:a.length<=b.length:=ω;(conv=>whnf);refine Sw.Loop.inv (α:=List Nat×Nat×Nat) (λx=>[(1,.c (lmc a)),(5,.gs 19 x.1.length),(6,.int .u32 (x.2.1:Nat)),(20,.c (lmc b)),(21,.int .i64 b.length),(22,.int .i64 (x.2.2:Nat))]) (λx=>[(19,.grow 154 1 (x.1.map λx=>[.v (u32 x)]))]) (λx=>x.2.2<=b.length/\x.1.length=x.2.2/\Lb x.1/\x.2.1<=1/\val x.1+1000000000^x.2.2*x.2.1=val (b.take x.2.2)+val (a.take x.2.2)) (λx=>b.length-x.2.2) ([],0,0) ?_ ?_ ?_ (λx hx=>?_))|skip
 all_goals(repeat'((try(conv=>whnf));first
  |(with_reducible refine zad (λ_=>?_) (λ_=>?_))|refine zah ?_ ?_|(with_reducible refine zak ?_ ?_)|apply zaq))
 all_goals(try apply zar)
 all_goals first|(show SubE _ _;repeat'(first|exact trivial|refine And.intro ?_ ?_))|(show SubB _ _;repeat'(first|exact trivial|refine And.intro ?_ ?_))|skip
 all_goals(try rfl)
 all_goals(try simp only[aG,rV,dh]at *)
 all_goals first
  |omega|rfl|(obtain⟨h1,h2,h3,h4,h5⟩:=hx;have ga:=hp.2.2.1.getD x.2.2;have gb:=hp.2.2.2.getD x.2.2;have gz:=getD_none (l:=b) (k:=x.2.2) ω;(try simp(disch:=omega) only[bD]at *);(conv=>whnf);exact⟨(x.1++[(x.2.1+a.getD x.2.2 0+b.getD x.2.2 0)%1000000000],(x.2.1+a.getD x.2.2 0+b.getD x.2.2 0)/1000000000,x.2.2+1),⟨⟨rfl,TR η,iS (by(try simp(disch:=omega) only[bD,wu64,aS,iw,iq])<;>omega),rfl,rfl,aH ω,trivial⟩,⟨Cm (by(try simp(disch:=omega) only[bD,wu64,aS,iw,iq])<;>omega),trivial⟩,⟨by show x.2.2+1<=_;omega,by simp only[bF,bn,bG];omega,lT h3 (mY _ ψ),by show _/1000000000<=1;omega,ou h2 h5 rfl rfl rfl⟩,by show _-(x.2.2+1)<_-x.2.2;omega⟩⟩)|(obtain⟨h1,h2,h3,h4,h5⟩:=hx;have ga:=hp.2.2.1.getD x.2.2;have gb:=hp.2.2.2.getD x.2.2;(try simp(disch:=omega) only[bD]at *);(conv=>whnf);exact⟨(x.1++[(x.2.1+a.getD x.2.2 0+b.getD x.2.2 0)%1000000000],(x.2.1+a.getD x.2.2 0+b.getD x.2.2 0)/1000000000,x.2.2+1),⟨⟨rfl,TR η,iS (by(try simp(disch:=omega) only[bD,wu64,aS,iw,iq])<;>omega),rfl,rfl,aH ω,trivial⟩,⟨Cm (by(try simp(disch:=omega) only[bD,wu64,aS,iw,iq])<;>omega),trivial⟩,⟨by show x.2.2+1<=_;omega,by simp only[bF,bn,bG];omega,lT h3 (mY _ ψ),by show _/1000000000<=1;omega,ou h2 h5 rfl rfl rfl⟩,by show _-(x.2.2+1)<_-x.2.2;omega⟩⟩)|(obtain⟨h1,h2,h3,h4,h5⟩:=hx;have ga:=hp.2.2.2.getD x.2.2;have gb:=hp.2.2.1.getD x.2.2;have gz:=getD_none (l:=a) (k:=x.2.2) ω;(try simp(disch:=omega) only[bD]at *);(conv=>whnf);exact⟨(x.1++[(x.2.1+b.getD x.2.2 0+a.getD x.2.2 0)%1000000000],(x.2.1+b.getD x.2.2 0+a.getD x.2.2 0)/1000000000,x.2.2+1),⟨⟨rfl,TR η,iS (by(try simp(disch:=omega) only[bD,wu64,aS,iw,iq])<;>omega),rfl,rfl,aH ω,trivial⟩,⟨Cm (by(try simp(disch:=omega) only[bD,wu64,aS,iw,iq])<;>omega),trivial⟩,⟨by show x.2.2+1<=_;omega,by simp only[bF,bn,bG];omega,lT h3 (mY _ ψ),by show _/1000000000<=1;omega,ou h2 h5 rfl rfl rfl⟩,by show _-(x.2.2+1)<_-x.2.2;omega⟩⟩)|(obtain⟨h1,h2,h3,h4,h5⟩:=hx;have ga:=hp.2.2.2.getD x.2.2;have gb:=hp.2.2.1.getD x.2.2;(try simp(disch:=omega) only[bD]at *);(conv=>whnf);exact⟨(x.1++[(x.2.1+b.getD x.2.2 0+a.getD x.2.2 0)%1000000000],(x.2.1+b.getD x.2.2 0+a.getD x.2.2 0)/1000000000,x.2.2+1),⟨⟨rfl,TR η,iS (by(try simp(disch:=omega) only[bD,wu64,aS,iw,iq])<;>omega),rfl,rfl,aH ω,trivial⟩,⟨Cm (by(try simp(disch:=omega) only[bD,wu64,aS,iw,iq])<;>omega),trivial⟩,⟨by show x.2.2+1<=_;omega,by simp only[bF,bn,bG];omega,lT h3 (mY _ ψ),by show _/1000000000<=1;omega,ou h2 h5 rfl rfl rfl⟩,by show _-(x.2.2+1)<_-x.2.2;omega⟩⟩)|exact⟨ω,rfl,Lb.nil,ω,by simp[val]⟩|(simp only[aG,bF,bn,bG];omega)|(refine Yh hx.2.2.1 ω ω ?_;have h5:=hx.2.2.2.2;rw[aU (l:=a) ω,aU (l:=b) ω]at h5;rw[hx.2.1];omega)⟩
end Go.Proofs.YtmniihkenijjpaaGreatDoor
namespace Go.Sw
open Go
theorem Oj{n:Int}(h:0<=n)(h2:n<=9223372036854775807):IntKind.u64.wrap n=((n.natAbs:Nat):Int):=by rw[IntKind.wrap_u64];omega
theorem NQ{n:Int}(h:n<0)(h2 : -9223372036854775808<=n):IntKind.u64.wrap (0-IntKind.u64.wrap n)=((n.natAbs:Nat):Int):=by rw[IntKind.wrap_u64,IntKind.wrap_u64];omega
theorem IX{x y:Int}(h:x=y):packA [Z x]=Z y:=by rw[h];rfl
theorem Og{a b qs rs:List Nat}(h4:Lb qs)(h5:Lb rs)(h6:val a=val b*val qs+val rs)(h7:val rs<val b)(h8:qs.length=PO a b)(h9:rs.length=Nb a b):qs=pad (PO a b) (val a/val b)/\rs=pad (Nb a b) (val a%val b):=by
 have h1:val a/val b=val qs:=by rw[h6,yB,Nat.add_comm,Nat.add_mul_div_right _ _ ω,Nat.div_eq_of_lt h7,pq]
 have h2:val a%val b=val rs:=by rw[h6,Nat.mul_add_mod,GL h7]
 rw[h1,h2,<-h8,<-h9];exact⟨wK _ h4,wK _ h5⟩
section
variable {a b:Int}
theorem TD(h:(((lim a.natAbs).length:Nat):Int)=0):packA [AV.c (Cell.v (.int .i64 0))]=AV.int .i64 (gB a):=iE (by have:=bM (n:=a.natAbs);unfold gB;repeat' split;all_goals omega)
theorem Ux(h:a<0):packA [AV.c (Cell.v (.int .i64 (-1)))]=AV.int .i64 (gB a):=iE (by unfold gB;repeat' split;all_goals omega)
theorem TM(h:¬a<0)(h2:(((lim a.natAbs).length:Nat):Int)>0):packA [AV.c (Cell.v (.int .i64 1))]=AV.int .i64 (gB a):=iE (by have:=bM (n:=a.natAbs);unfold gB;repeat' split;all_goals omega)
theorem Uy(h:(decide (a<0) != decide (b<0))=true)(ha:a<0):packA [AV.c (Cell.v (.int .i64 (-1)))]=AV.int .i64 (gU a b):=iE (by have hb:¬b<0:=(λhb=>by simp[ha,hb]at h);rw[QJ ω])
theorem Ui(h:(decide (a<0) != decide (b<0))=true)(ha:¬a<0):packA [AV.c (Cell.v (.int .i64 1))]=AV.int .i64 (gU a b):=iE (by have hb:b<0:=Decidable.byContradiction (λhb=>by simp[ha,hb]at h);rw[RX ω])
theorem UA(h:(decide (a<0) != decide (b<0))=false)(ha:a<0):packA [AV.c (Cell.v (.int .i64 (dL (val (lim b.natAbs)) (val (lim a.natAbs)))))]=AV.int .i64 (gU a b) :=
 iE (by rw[aB,aB,Pj ha (Decidable.byContradiction λhb=>by simp[ha,hb]at h)])
theorem UJ(h:(decide (a<0) != decide (b<0))=false)(ha:¬a<0):packA [AV.c (Cell.v (.int .i64 (dL (val (lim a.natAbs)) (val (lim b.natAbs)))))]=AV.int .i64 (gU a b) :=
 iE (by rw[aB,aB,O6 ha (λhb=>by simp[ha,hb]at h)])
theorem LC(h:(decide (a<0) == decide (b<0))=true):decide (a<0)=decide (b<0):=by simpa using h
theorem CY(h:(decide (a<0) == decide (b<0))=false):¬decide (a<0)=decide (b<0):=by simpa using h
theorem WG(h:(decide (a<0) == decide (b<0))=true):packA [AV.c (Cell.v (.bool (decide (dL (val (lim a.natAbs)) (val (lim b.natAbs))=0))))]=AV.bool (decide (a=b)) :=
 bE (by have h:=LC h;rw[decide_eq_decide]at h;rw[aB,aB,decide_eq_decide,NI];omega)
theorem Xq(h:(decide (a<0) == decide (b<0))=false):packA [AV.c (Cell.v (.bool false))]=AV.bool (decide (a=b)) :=
 bE (by have h:=CY h;rw[decide_eq_decide]at h;symm;rw[decide_eq_false_iff_not];omega)
theorem Tz:packA [Z (cO (!decide (a<0)) (val (lim a.natAbs)))]=Z (-a):=IX (by rw[aB];exact NC a)
theorem ZH:packA [Z (cO (decide (a<0) != decide (b<0)) (val (lim (val (lim a.natAbs)*val (lim b.natAbs)))))]=Z (a*b):=IX (by rw[aB,aB,aB];exact D7 a b)
theorem Um:packA [Z (cO (decide (a<0) != decide (b<0)) (val (pad ((lim a.natAbs).length+(lim b.natAbs).length) (val (lim a.natAbs)*val (lim b.natAbs)))))]=Z (a*b):=IX (by
 rw[jk _ _ (by rw[Nat.pow_add];exact Nat.mul_lt_mul'' (dO _ (aI _)) (dO _ (aI _))),aB,aB];exact D7 a b)
theorem ZN(h:(decide (a<0) == decide (b<0))=true):packA [Z (cO (decide (a<0)) (val (lim (val (lim a.natAbs)+val (lim b.natAbs)))))]=Z (a+b):=IX (by rw[aB,aB,aB];exact Es (LC h))
theorem Y7(h:(decide (a<0) == decide (b<0))=false)(h2:dL (val (lim a.natAbs)) (val (lim b.natAbs))>=0):packA [Z (cO (decide (a<0)) (val (lim (val (lim a.natAbs)-val (lim b.natAbs)))))]=Z (a+b):=IX (by
 rw[aB,aB]at h2 ⊢;rw[aB];exact rY (CY h) (lG.1 h2))
theorem aam(h:(decide (a<0) == decide (b<0))=false)(h2:¬dL (val (lim a.natAbs)) (val (lim b.natAbs))>=0):packA [Z (cO (decide (b<0)) (val (lim (val (lim b.natAbs)-val (lim a.natAbs)))))]=Z (a+b):=IX (by
 rw[aB,aB]at h2 ⊢;rw[aB,Int.add_comm];exact rY (λe=>CY h e.symm) (by have:=mt lG.2 h2;omega))
theorem UR(h:(decide (a<0) == decide (b<0))=true):packA [Z (cO (decide (a<0)) (val (pad (max (lim a.natAbs).length (lim b.natAbs).length+1) (val (lim a.natAbs)+val (lim b.natAbs)))))]=Z (a+b):=IX (by
 have h1:=dO _ (aI a.natAbs);have h2:=dO _ (aI b.natAbs);have h3:=BZ (n:=1000000000) ψ (Nat.le_max_left (lim a.natAbs).length (lim b.natAbs).length);have h4:=BZ (n:=1000000000) ψ (Nat.le_max_right (lim a.natAbs).length (lim b.natAbs).length)
 rw[jk _ _ (by rw[rG];omega),aB,aB];exact Es (LC h))
theorem Ud(h:(decide (a<0) == decide (b<0))=false)(h2:¬dL (val (lim a.natAbs)) (val (lim b.natAbs))<0):packA [Z (cO (decide (a<0)) (val (pad (lim a.natAbs).length (val (lim a.natAbs)-val (lim b.natAbs)))))]=Z (a+b):=IX (by
 have h1:=dO _ (aI a.natAbs);rw[jk _ _ ω]
 rw[aB,aB]at h2 ⊢;exact rY (CY h) (lG.1 ω))
theorem Ug(h:(decide (a<0) == decide (b<0))=false)(h2:dL (val (lim a.natAbs)) (val (lim b.natAbs))<0):packA [Z (cO (decide (b<0)) (val (pad (lim b.natAbs).length (val (lim b.natAbs)-val (lim a.natAbs)))))]=Z (a+b):=IX (by
 have h1:=dO _ (aI b.natAbs);rw[jk _ _ ω]
 rw[aB,aB]at h2 ⊢;rw[Int.add_comm];exact rY (λe=>CY h e.symm) (by have:=nK.1 h2;omega))
theorem xK(h1:sz a<=1000000000)(h2:sz b<=1000000000)(h:b.natAbs<=a.natAbs):(lim a.natAbs).length<=1000000000000/\(lim b.natAbs).length<=1000000000000/\Lb (lim a.natAbs)/\Lb (lim b.natAbs)/\(lim b.natAbs).length<=(lim a.natAbs).length/\val (lim b.natAbs)<=val (lim a.natAbs):=by
 unfold sz at h1 h2;exact⟨ω,ω,aI _,aI _,fA h,by rw[aB,aB];exact h⟩
theorem Bl(h1:sz a<=1000000000)(h2:sz b<=1000000000):(lim a.natAbs).length<=1000000000000/\(lim b.natAbs).length<=1000000000000/\Lb (lim a.natAbs)/\Lb (lim b.natAbs):=by
 unfold sz at h1 h2;exact⟨ω,ω,aI _,aI _⟩
theorem Xu(h:¬b<0):AV.agg [Cell.v (.bool (decide ((((lim b.natAbs).map λx=>[Cell.v (u32 x)]).length:Int)>0))),zl b]=Z (-b):=by
 show _=AV.agg [zs (-b),zl (-b)];unfold zs zl;have:=bM (n:=b.natAbs);rw[Int.natAbs_neg,aG,show decide ((((lim b.natAbs).length:Nat):Int)>0)=decide (-b<0) by rw[decide_eq_decide];omega]
theorem XL(h:b<0):AV.agg [Cell.v (.bool false),zl b]=Z (-b):=by
 show _=AV.agg [zs (-b),zl (-b)];unfold zs zl;rw[Int.natAbs_neg,decide_eq_false (show¬-b<0 by omega)]
theorem ZL(h:gU a (-9223372036854775808)<0):packA [AV.c (Cell.v (.int .i64 0)),AV.c (Cell.v (.bool false))]=AV.tup [.int .i64 (if -9223372036854775808<=a/\a<=9223372036854775807 then a else 0),.bool (decide (-9223372036854775808<=a/\a<=9223372036854775807))]:=by
 have:=yw.1 h;rw[if_neg ω,decide_eq_false ω];rfl
theorem ZO(h:gU a 9223372036854775807>0):packA [AV.c (Cell.v (.int .i64 0)),AV.c (Cell.v (.bool false))]=AV.tup [.int .i64 (if -9223372036854775808<=a/\a<=9223372036854775807 then a else 0),.bool (decide (-9223372036854775808<=a/\a<=9223372036854775807))]:=by
 have:=yt.1 h;rw[if_neg ω,decide_eq_false ω];rfl
theorem aaJ(h:¬gU a (-9223372036854775808)<0)(h2:¬gU a 9223372036854775807>0):-9223372036854775808<=a/\a<=9223372036854775807:=by
 have h3:=mt yw.2 h;have h4:=mt yt.2 h2;omega
theorem Z8{x:Int}(hb : -9223372036854775808<=a/\a<=9223372036854775807)(hx:x=a):packA [AV.c (Cell.v (.int .i64 x)),AV.c (Cell.v (.bool true))]=AV.tup [.int .i64 (if -9223372036854775808<=a/\a<=9223372036854775807 then a else 0),.bool (decide (-9223372036854775808<=a/\a<=9223372036854775807))]:=by
 rw[if_pos hb,decide_eq_true hb,hx];rfl
theorem ZK(hb : -9223372036854775808<=a/\a<=9223372036854775807):(lim a.natAbs).length<=1000000000000/\Lb (lim a.natAbs)/\val (lim a.natAbs)<18446744073709551616:=by
 have:=dV hb.1 hb.2;unfold sz at this;exact⟨ω,aI _,by rw[aB];omega⟩
theorem MX(h1:sz a<=1000000000)(h2:sz b<=1000000000)(h:¬b.natAbs=0):(lim a.natAbs).length<=100000000000/\(lim b.natAbs).length<=100000000000/\Lb (lim a.natAbs)/\Lb (lim b.natAbs)/\0<b.natAbs:=by
 unfold sz at h1 h2;exact⟨ω,ω,aI _,aI _,ω⟩
theorem dqI(h:¬b.natAbs=0):val (pad (PO (lim a.natAbs) (lim b.natAbs)) (a.natAbs/b.natAbs))=a.natAbs/b.natAbs:=by
 have:=Wh (aI a.natAbs) (aI b.natAbs) (by rw[aB];omega)
 rwa [aB,aB]at this
theorem drI(h:¬b.natAbs=0):val (pad (Nb (lim a.natAbs) (lim b.natAbs)) (a.natAbs%b.natAbs))=a.natAbs%b.natAbs:=by
 have:=VR (aI a.natAbs) (aI b.natAbs) (by rw[aB];omega)
 rwa [aB,aB]at this
theorem QB{r:Nat}(h0:0<r)(h:((decide (a<0)&&decide (0<r)) != decide (b<0))=true):(decide (a<0) != decide (b<0))=true:=by rwa [decide_eq_true h0,Bool.and_true]at h
theorem Rk{r:Nat}(h0:0<r)(h:((decide (a<0)&&decide (0<r)) != decide (b<0))=false):¬(decide (a<0) != decide (b<0))=true:=by rw[decide_eq_true h0,Bool.and_true]at h;rw[h];decide
theorem abG(h:sz a<=1000000000)(s:Bool):sz (cO s (a.natAbs/b.natAbs))<=1000000000:=aP (vN _ _ a (ES _ _)) h
theorem acF(h:sz a<=1000000000)(s:Bool):sz (cO s (a.natAbs%b.natAbs))<=1000000000:=aP (vN _ _ a (Nat.mod_le _ _)) h
theorem ad2:sz 1<=1000000000:=aP (dV ψ ψ) ψ
end
section
variable {a b:Int} {m n:Nat}
theorem abB(h1:(lim m).length<=1000000000)(h2:(lim n).length<=1000000000)(h:(((lim n).length:Nat):Int)>0):(lim m).length<=1000000000/\(lim n).length<=1000000000/\CanL (lim m)/\CanL (lim n)/\0<val (lim n):=by
 have:=bM (n:=n);exact⟨h1,h2,CanL.lim _,CanL.lim _,by rw[aB];omega⟩
theorem WU(h:¬(((lim m).length:Nat):Int)>2):(lim m).length<=1000000000000/\Lb (lim m)/\val (lim m)<18446744073709551616:=by
 have:=nV (n:=m) ω;exact⟨ω,aI _,by rw[aB];omega⟩
theorem acU:some (AV.c (lmc (lim (val (lim m)%val (lim n)))))=some (AV.c (lmc (lim (m%n)))):=by rw[aB,aB]
theorem QS{x:Nat}(h0:n=0)(hg:Nat.gcd m n=Nat.gcd a.natAbs b.natAbs)(hx:x=m):packA [Z (cO false x)]=Z ((Nat.gcd a.natAbs b.natAbs:Nat):Int):=IX (by
 subst h0 hx;rw[<-hg,Nat.gcd_zero_right];rfl)
theorem gv:some (AV.int .u64 ((val (lim m):Nat):Int))=some (AV.int .u64 ((m:Nat):Int)):=by rw[aB]
theorem glt(h:¬(((lim m).length:Nat):Int)>2):m<1000000000000000000:=nV ω
theorem aal(u v:Nat):(u:Int).tmod (v:Int)=((u%v:Nat):Int):=by rw[Int.tmod_eq_emod_of_nonneg ω];rfl
theorem gm2{u v:Nat}:some (AV.int .u64 ((u:Int).tmod (v:Int)))=some (AV.int .u64 ((u%v:Nat):Int)):=by rw[aal]
theorem KI(x y:Int)(h:x=y):some (Bk.var [zs x,zl x])=some (Bk.var [zs y,zl y]):=by rw[h]
theorem wif(h:sz ((m:Nat):Int)<=2):some (AV.int .u64 ((if sz ((m:Nat):Int)<=2 then((m:Nat):Int).natAbs else 0:Nat):Int))=some (AV.int .u64 ((m:Nat):Int)):=by rw[if_pos h];rfl
theorem adu(h1:sz ((m:Nat):Int)<=1000000000)(h2:sz ((n:Nat):Int)<=1000000000)(h:(((lim ((n:Nat):Int).natAbs).length:Nat):Int)>0):(lim ((m:Nat):Int).natAbs).length<=100000000000/\(lim ((n:Nat):Int).natAbs).length<=100000000000/\Lb (lim ((m:Nat):Int).natAbs)/\Lb (lim ((n:Nat):Int).natAbs)/\0<val (lim ((n:Nat):Int).natAbs):=by
 have:=bM (n:=((n:Nat):Int).natAbs);have k:=MX h1 h2 ω;rw[aB];exact k
theorem gst(h:(((lim ((n:Nat):Int).natAbs).length:Nat):Int)>0):cO false (val (pad (Nb (lim ((m:Nat):Int).natAbs) (lim ((n:Nat):Int).natAbs)) (val (lim ((m:Nat):Int).natAbs)%val (lim ((n:Nat):Int).natAbs))))=((m%n:Nat):Int):=by
 have:=bM (n:=((n:Nat):Int).natAbs);rw[aB,aB,drI ω];rfl
theorem adq(h:(((lim ((n:Nat):Int).natAbs).length:Nat):Int)>0):0<n:=by
 have h2:=bM (n:=((n:Nat):Int).natAbs);rw[vZ]at h2 h;omega
theorem ZU(h:¬(((lim ((n:Nat):Int).natAbs).length:Nat):Int)>0):n=0:=by
 have h2:=bM (n:=((n:Nat):Int).natAbs);rw[vZ]at h2 h;omega
end
end Go.Sw
namespace Go.Proofs.YtmniihkenijjpaaGreatDoor
open Go Go.RowKit Go.Sw
set_option maxRecDepth 100000
set_option maxHeartbeats 16000000
instance aa2(n:Int):DenI Tryz.prog 80 [.int .i64 n] (-9223372036854775808<=n/\n<=9223372036854775807) (Z n):=⟨λhp=>by
 refine au Tryz.func80 rfl ?_
 repeat'((try(conv=>whnf));first
  |(with_reducible refine zad (λ_=>?_) (λ_=>?_)))
 all_goals(try((conv=>whnf);simp(disch:=omega) only[Oj,NQ]))
 all_goals(repeat'((try(conv=>whnf));first
  |refine zaa ?_ ?_|apply zaq))
 all_goals(try apply zar)
 all_goals first
  |exact aI _|omega|(refine IX ?_;rw[aB];first|exact Nk ω|exact Ob ω)⟩
instance abd(n:Int):DenI Tryz.prog 199 [.int .i64 n] (-9223372036854775808<=n/\n<=9223372036854775807) (Z n):=⟨λhp=>by
 refine au Tryz.func199 rfl ?_
 repeat'((try(conv=>whnf));first
  |(with_reducible refine zad (λ_=>?_) (λ_=>?_)))
 all_goals(try((conv=>whnf);simp(disch:=omega) only[Oj,NQ]))
 all_goals(repeat'((try(conv=>whnf));first
  |refine zaa ?_ ?_|apply zaq))
 all_goals(try apply zar)
 all_goals first
  |exact jy _ _|omega|(refine IX ?_;rw[jk _ _ ω];first|exact Nk ω|exact Ob ω|exact vY n)⟩
instance abk(a:Int):DenI Tryz.prog 65 [Z a] (True) (.int .i64 (gB a)):=⟨λhp=>by
 refine au Tryz.func65 rfl ?_
 repeat'((try(conv=>whnf));first
  |apply zaf|refine zaa ?_ ?_|(with_reducible first|apply zab|apply zac|refine zad (λ_=>?_) (λ_=>?_)|refine zae (λ_=>?_) (λ_=>?_))|refine zat (λ_=>?_) (λ_=>?_)|refine zah ?_ ?_|refine zas ζ ?_|refine zal ?_ ?_|refine zam ?_ ?_|(with_reducible first|refine zak ?_ ?_|apply zaj|apply zai)|apply zaq)
 all_goals(try apply zar)
 all_goals(try simp only[aG]at *)
 all_goals first
  |with_reducible exact TD ω|with_reducible exact Ux ω|with_reducible exact TM ω ω|skip⟩
instance aaV(a:Int):DenI Tryz.prog 90 [Z a] (True) (.int .i64 (gB a)):=⟨λhp=>by
 refine au Tryz.func90 rfl ?_
 repeat'((try(conv=>whnf));first
  |(with_reducible refine zad (λ_=>?_) (λ_=>?_))|apply zaq)
 all_goals(try simp only[aG]at *)
 all_goals first
  |with_reducible exact TD ω|with_reducible exact Ux ω|with_reducible exact TM ω ω⟩
instance acp(a b:Int):DenI Tryz.prog 70 [Z a,Z b] (True) (.int .i64 (gU a b)):=⟨λhp=>by
 refine au Tryz.func70 rfl ?_
 repeat'((try(conv=>whnf));first
  |apply zaf|refine zaa ?_ ?_|(with_reducible first|apply zab|apply zac|refine zad (λ_=>?_) (λ_=>?_)|refine zae (λ_=>?_) (λ_=>?_))|refine zat (λ_=>?_) (λ_=>?_)|refine zah ?_ ?_|refine zas ζ ?_|refine zal ?_ ?_|refine zam ?_ ?_|(with_reducible first|refine zak ?_ ?_|apply zaj|apply zai)|apply zaq)
 all_goals(try apply zar)
 all_goals first
  |with_reducible exact⟨CanL.lim _,CanL.lim _⟩|with_reducible exact⟨aI _,aI _⟩|with_reducible exact aI _|with_reducible exact jy _ _|with_reducible exact Uy ξ ξ|with_reducible exact Ui ξ ξ|with_reducible exact UA ξ ξ|with_reducible exact UJ ξ ξ|skip⟩
instance ac7(a b:Int):DenI Tryz.prog 157 [Z a,Z b] (True) (.int .i64 (gU a b)):=⟨λhp=>by
 refine au Tryz.func157 rfl ?_
 repeat'((try(conv=>whnf));first
  |refine zaa ?_ ?_|(with_reducible refine zad (λ_=>?_) (λ_=>?_))|refine zat (λ_=>?_) (λ_=>?_)|apply zaq)
 all_goals(try apply zar)
 all_goals first
  |with_reducible exact⟨aI _,aI _⟩|with_reducible exact Uy ξ ξ|with_reducible exact Ui ξ ξ|with_reducible exact UA ξ ξ|with_reducible exact UJ ξ ξ⟩
instance aaY(a b:Int):DenI Tryz.prog 111 [Z a,Z b] (True) (.bool (decide (a=b))):=⟨λhp=>by
 refine au Tryz.func111 rfl ?_
 repeat'((try(conv=>whnf));first
  |apply zaf|refine zaa ?_ ?_|(with_reducible first|apply zab|apply zac|refine zad (λ_=>?_) (λ_=>?_)|refine zae (λ_=>?_) (λ_=>?_))|refine zat (λ_=>?_) (λ_=>?_)|refine zah ?_ ?_|refine zas ζ ?_|refine zal ?_ ?_|refine zam ?_ ?_|(with_reducible first|refine zak ?_ ?_|apply zaj|apply zai)|apply zaq)
 all_goals(try apply zar)
 all_goals first
  |with_reducible exact⟨CanL.lim _,CanL.lim _⟩|with_reducible exact⟨aI _,aI _⟩|with_reducible exact aI _|with_reducible exact jy _ _|with_reducible exact WG ξ|with_reducible exact Xq ξ|skip⟩
instance adJ(a:Int):DenI Tryz.prog 140 [Z a] (sz a<=1000000000) (Z (-a)):=⟨λhp=>by
 refine au Tryz.func140 rfl ?_
 repeat'((try(conv=>whnf));first
  |apply zaf|refine zaa ?_ ?_|(with_reducible first|apply zab|apply zac|refine zad (λ_=>?_) (λ_=>?_)|refine zae (λ_=>?_) (λ_=>?_))|refine zat (λ_=>?_) (λ_=>?_)|refine zah ?_ ?_|refine zas ζ ?_|refine zal ?_ ?_|refine zam ?_ ?_|(with_reducible first|refine zak ?_ ?_|apply zaj|apply zai)|apply zaq)
 all_goals(try apply zar)
 all_goals(try simp only[aG]at *)
 all_goals first
  |with_reducible exact⟨CanL.lim _,CanL.lim _⟩|with_reducible exact⟨aI _,aI _⟩|with_reducible exact aI _|with_reducible exact jy _ _|with_reducible exact Tz|(unfold sz at hp;omega)|skip⟩
instance adX(a:Int):DenI Tryz.prog 155 [Z a] (sz a<=1000000000) (Z (-a)):=⟨λhp=>by
 refine au Tryz.func155 rfl ?_
 repeat'((try(conv=>whnf));first
  |refine zaa ?_ ?_|refine zah ?_ ?_|refine zas ζ ?_|apply zaq)
 all_goals(try apply zar)
 all_goals(try simp only[aG]at *)
 all_goals first
  |with_reducible exact aI _|with_reducible exact Tz|(unfold sz at hp;omega)⟩
instance acz(a b:Int):DenI Tryz.prog 71 [Z a,Z b] (sz a<=1000000000/\sz b<=1000000000) (Z (a*b)):=⟨λhp=>by
 refine au Tryz.func71 rfl ?_
 repeat'((try(conv=>whnf));first
  |apply zaf|refine zaa ?_ ?_|(with_reducible first|apply zab|apply zac|refine zad (λ_=>?_) (λ_=>?_)|refine zae (λ_=>?_) (λ_=>?_))|refine zat (λ_=>?_) (λ_=>?_)|refine zah ?_ ?_|refine zas ζ ?_|refine zal ?_ ?_|refine zam ?_ ?_|(with_reducible first|refine zak ?_ ?_|apply zaj|apply zai)|apply zaq)
 all_goals(try apply zar)
 all_goals first
  |with_reducible exact⟨CanL.lim _,CanL.lim _⟩|with_reducible exact⟨aI _,aI _⟩|with_reducible exact aI _|with_reducible exact jy _ _|with_reducible exact Bl hp.1 hp.2|with_reducible exact ZH|with_reducible exact Um|skip⟩
instance ab9(a b:Int):DenI Tryz.prog 122 [Z a,Z b] (sz a<=1000000000/\sz b<=1000000000) (Z (a*b)):=⟨λhp=>by
 refine au Tryz.func122 rfl ?_
 repeat'((try(conv=>whnf));first
  |refine zaa ?_ ?_|refine zas ζ ?_|apply zaq)
 all_goals(try apply zar)
 all_goals first
  |with_reducible exact jy _ _|with_reducible exact Bl hp.1 hp.2|with_reducible exact Um⟩
instance acA(a b:Int):DenI Tryz.prog 109 [Z a,Z b] (sz a<=1000000000/\sz b<=1000000000) (Z (a+b)):=⟨λhp=>by
 refine au Tryz.func109 rfl ?_
 repeat'((try(conv=>whnf));first
  |apply zaf|refine zaa ?_ ?_|(with_reducible first|apply zab|apply zac|refine zad (λ_=>?_) (λ_=>?_)|refine zae (λ_=>?_) (λ_=>?_))|refine zat (λ_=>?_) (λ_=>?_)|refine zah ?_ ?_|refine zas ζ ?_|refine zal ?_ ?_|refine zam ?_ ?_|(with_reducible first|refine zak ?_ ?_|apply zaj|apply zai)|apply zaq)
 all_goals(try apply zar)
 all_goals first
  |with_reducible exact⟨CanL.lim _,CanL.lim _⟩|with_reducible exact⟨aI _,aI _⟩|with_reducible exact aI _|with_reducible exact jy _ _|with_reducible exact Bl hp.1 hp.2|exact xK hp.1 hp.2 (lG.1 (by rename_i h;rw[aB,aB]at h;omega))|exact xK hp.2 hp.1 (by rename_i h;rw[aB,aB]at h;have:=mt lG.2 h;omega)|exact xK hp.2 hp.1 (by rename_i h;rw[aB,aB]at h;have:=nK.1 h;omega)|with_reducible exact ZN ξ|with_reducible exact Y7 ξ ξ|with_reducible exact aam ξ ξ|with_reducible exact UR ξ|with_reducible exact Ud ξ ξ|with_reducible exact Ug ξ ξ|skip⟩
instance acf(a b:Int):DenI Tryz.prog 201 [Z a,Z b] (sz a<=1000000000/\sz b<=1000000000) (Z (a+b)):=⟨λhp=>by
 refine au Tryz.func201 rfl ?_
 repeat'((try(conv=>whnf));first
  |refine zaa ?_ ?_|(with_reducible refine zad (λ_=>?_) (λ_=>?_))|refine zat (λ_=>?_) (λ_=>?_)|refine zas ζ ?_|apply zaq)
 all_goals(try apply zar)
 all_goals first
  |with_reducible exact⟨aI _,aI _⟩|with_reducible exact jy _ _|with_reducible exact Bl hp.1 hp.2|exact xK hp.1 hp.2 (lG.1 (by rename_i h;rw[aB,aB]at h;omega))|exact xK hp.2 hp.1 (by rename_i h;rw[aB,aB]at h;have:=nK.1 h;omega)|with_reducible exact UR ξ|with_reducible exact Ud ξ ξ|with_reducible exact Ug ξ ξ⟩
end Go.Proofs.YtmniihkenijjpaaGreatDoor
namespace Go.Sw
open Go Go.RowKit
section
variable {P:Program} {f:FuncId} {xs:List AV} {w:World} {X:List Nat} {vs:List Value}
theorem aaz{u:Value}{x:AV}(h:RepD w X u x):∀(i:Nat) a b,[u][i]?=some a->[x][i]?=some b->RepD w X a b:=λi a b h1 h2=>by
 cases i with
 |zero=>simp at h1 h2;subst h1 h2;exact h
 |succ i=>simp at h1
theorem UQ{u v:Value}{x y:AV}(h:RepD w X u x)(k:RepD w X v y):∀(i:Nat) a b,[u,v][i]?=some a->[x,y][i]?=some b->RepD w X a b:=λi a b h1 h2=>by
 match i with
 |0=>simp at h1 h2;subst h1 h2;exact h
 |1=>simp at h1 h2;subst h1 h2;exact k
 |_+2=>simp at h1
theorem Oy{u:Value}{c:Cell}(h:RepR w X u (.c c)):RepC w X u c:=by
 generalize hv:AV.c c=v at h;cases h with
 |d h =>
  cases h with
  |c h=>injection hv with hv;subst hv;exact h
  |agg h=>cases hv
 |tup _ _=>cases hv
theorem Xo{u x:Value}(h:RepC w X u (.v x)):u=x:=by
 generalize hc:Cell.v x=c at h;cases h with
 |v _ _=>injection hc with hc;exact hc.symm
 |sl=>cases hc
 |p=>cases hc
 |fn=>cases hc
theorem aaC{l:List Nat}(h : @Den P (Wld.any P) f xs (.c (lmc l)))(hX:∀m∈X,m<w.heap.size)(hl:vs.length=xs.length)(hr:∀(i:Nat) u v,vs[i]?=some u->xs[i]?=some v->RepD w X u v):Calls P f vs.toArray w (Ret λr w'=>UL w' X r l/\Below w.heap.size w w') :=
 ((@Den.old P (Wld.any P) _ _ _ h (noTup_rep hl hr)).2 w X vs trivial hX hl hr).mono λe w' ⟨u,he,hR,hb⟩=>⟨u,he,UL.of_rep (Oy hR.r),hb⟩
theorem acn{x:Value}(h : @Den P (Wld.any P) f xs (.c (.v x)))(hX:∀m∈X,m<w.heap.size)(hl:vs.length=xs.length)(hr:∀(i:Nat) u v,vs[i]?=some u->xs[i]?=some v->RepD w X u v):Calls P f vs.toArray w (Ret λr w'=>r=x/\Below w.heap.size w w') :=
 ((@Den.old P (Wld.any P) _ _ _ h (noTup_rep hl hr)).2 w X vs trivial hX hl hr).mono λe w' ⟨u,he,hR,hb⟩=>⟨u,he,Xo (Oy hR.r),hb⟩
theorem SH{u:Value}{l m:List Nat}(h:RepR w X u (.tup [.c (lmc l),.c (lmc m)])):∃r0 r1,u=.tuple #[r0,r1]/\UL w X r0 l/\UL w X r1 m:=by
 generalize hv:AV.tup [.c (lmc l),.c (lmc m)]=v at h;cases h with
 |d h=>cases h with
  |c h=>cases hv
  |agg h=>cases hv
 |@tup us vs hl h =>
  injection hv with hv
  subst hv
  match us,hl with
  |[r0,r1],_=>exact⟨r0,r1,rfl,(h 0 r0 _ rfl rfl).ul,(h 1 r1 _ rfl rfl).ul⟩
theorem Yg{l m:List Nat}(h : @Den P (Wld.any P) f xs (.tup [.c (lmc l),.c (lmc m)]))(hX:∀m∈X,m<w.heap.size)(hl:vs.length=xs.length)(hr:∀(i:Nat) u v,vs[i]?=some u->xs[i]?=some v->RepD w X u v):Calls P f vs.toArray w (Ret λr w'=>(∃r0 r1,r=.tuple #[r0,r1]/\UL w' X r0 l/\UL w' X r1 m)/\Below w.heap.size w w') :=
 ((@Den.old P (Wld.any P) _ _ _ h (noTup_rep hl hr)).2 w X vs trivial hX hl hr).mono λe w' ⟨u,he,hR,hb⟩=>⟨u,he,SH hR.r,hb⟩
end
end Go.Sw
namespace Go.Proofs.YtmniihkenijjpaaGreatDoor
open Go Go.RowKit Go.Sw
set_option maxRecDepth 100000
set_option maxHeartbeats 16000000
theorem gX{w:World}{X:List Nat}(hX:∀m∈X,m<w.heap.size){v_l:Value}{l:List Nat}(h_l:UL w X v_l (l)):
 Calls Tryz.prog 230 #[v_l] w (Ret λr w'=>(UL w' X r (ah l))/\Below w.heap.size w w'):=aaC ((inferInstance:DenI Tryz.prog 230 [.c (lmc l)] _ _).den trivial) hX rfl (aaz (.c h_l.rep))
theorem qo{w:World}{X:List Nat}(hX:∀m∈X,m<w.heap.size){v_a:Value}{a:List Nat}(h_a:UL w X v_a (a)){v_b:Value}{b:List Nat}(h_b:UL w X v_b (b))(ha:Lb a)(hb:Lb b):
 Calls Tryz.prog 198 #[v_a,v_b] w (Ret λr w'=>(r=.int .i64 (dL (val a) (val b)))/\Below w.heap.size w w'):=acn ((inferInstance:DenI Tryz.prog 198 [.c (lmc a),.c (lmc b)] _ _).den ⟨ha,hb⟩) hX rfl (UQ (.c h_a.rep) (.c h_b.rep))
theorem kJ{w:World}{X:List Nat}(hX:∀m∈X,m<w.heap.size){v_a:Value}{a:List Nat}(h_a:UL w X v_a (a))(b:Nat)(hn_a:a.length<=1000000000000)(hb_a:Lb a)(hb0:0<b)(hb1:b<1000000000):
 Calls Tryz.prog 231 #[v_a,(.int .u32 ((b:Nat):Int))] w (Ret λr w'=>(∃qs:List Nat,∃rs:List Nat,∃r0 r1,r=.tuple #[r0,r1]/\UL w' X r0 (qs)/\UL w' X r1 (rs)/\Lb qs/\Lb rs/\val a=b*val qs+val rs/\val rs<b/\qs.length=a.length/\rs.length=1)/\Below w.heap.size w w'):=(Yg ((inferInstance:DenI Tryz.prog 231 [.c (lmc a),.int .u32 (b:Nat)] _ _).den ⟨hn_a,hb_a,hb0,hb1⟩) hX rfl (UQ (.c h_a.rep) (.c (.v _ rfl)))).mono λe w' ⟨u,he,⟨r0,r1,h1,h2,h3⟩,hb⟩=>⟨u,he,⟨_,_,r0,r1,h1,h2,h3,KJ hb_a hb0 hb1⟩,hb⟩
end Go.Proofs.YtmniihkenijjpaaGreatDoor
namespace Go.Proofs.YtmniihkenijjpaaGreatDoor
open Go Go.RowKit Go.Sw
set_option maxRecDepth 20000
namespace TfE
theorem el154:Sw.elemOf Tryz.prog 154=some (#[.int .u32 0],1,4):=ζ
theorem one154:isOne Tryz.prog 154=true:=ζ
theorem size154:(Tryz.prog.info? 154).map (λi=>i.size)=some 1:=ζ
theorem sl26:sliceOf Tryz.prog 26=some (154,1):=ζ
theorem sls26:(sliceOf Tryz.prog 26).isSome=true:=ζ
theorem und152:Tryz.prog.underlying 152=some (TypeDesc.int .u64):=ζ
theorem und154:Tryz.prog.underlying 154=some (TypeDesc.int .u32):=ζ
theorem unds152:(Tryz.prog.underlying 152).isSome=true:=ζ
theorem unds154:(Tryz.prog.underlying 154).isSome=true:=ζ
end TfE
theorem lC{w:World}{X:List Nat}(hX:∀m∈X,m<w.heap.size){v_a:Value}{a:List Nat}(h_a:UL w X v_a (a)){v_b:Value}{b:List Nat}(h_b:UL w X v_b (b))(hn_a:a.length<=1000000000000)(hn_b:b.length<=1000000000000)(hb_a:Lb a)(hb_b:Lb b):
 Calls Tryz.prog 161 #[v_a,v_b] w (Ret λr w'=>(∃o:List Nat,Zj 154 w w' r (o)/\Lb o/\val o=val a*val b/\o.length=a.length+b.length)/\Below w.heap.size w w'):=by
 refine enter (N:=68) (fn:=Tryz.f161) (vs:=[v_a,v_b]) Tryz.func161 rfl rfl rfl ?_;intro fa hF;obtain⟨A_a,_,c_a,rfl,rfl,hu_a⟩:=h_a;have hl_a:=hu_a.len;have hc_a:=hu_a.cap;obtain⟨A_b,_,c_b,rfl,rfl,hu_b⟩:=h_b;have hl_b:=hu_b.len;have hc_b:=hu_b.cap;replace hF:Frm 68 fa [(0,(.slice (A_a) (a.length) (c_a))),(1,(.slice (A_b) (b.length) (c_b)))]:=hF;have hS:=St.refl w;refine c_seq ?_;refine c_reg ?_;refine pr hF (pa rfl <| PR.nil) ?_;clear hF fa;intro fa hF;refine ak ?_;refine c_seq ?_;refine c_reg ?_;refine pr hF (pm rfl <| pg (λ_ hF=>jg TfE.sls26 (hF.ev rfl)) <| pm rfl <| pg (λ_ hF=>jg TfE.sls26 (hF.ev rfl)) <| pg (λ_ hF=>ex_add (hF.ev rfl) (hF.ev rfl) gI) <| PR.nil) ?_;clear hF fa;intro fa hF;refine st rfl (GY (X:=X) (nl:=a.length+b.length) (nc:=a.length+b.length) hF hS rfl TfE.sl26 TfE.el154 rfl rfl ω ω ω ω ω (AQ _) ?_);intro g1 w2 hg4 hS E3;refine mW ?_;clear hF fa;intro fa hF;rw[Nat.mul_one]at hS;refine pr hF (pa rfl <| PR.nil) ?_;clear hF fa;intro fa hF;refine ak ?_;refine c_seq ?_;refine c_seq ?_;refine c_reg ?_;refine pr hF (pm rfl <| pg (λ_ hF=>jg TfE.sls26 (hF.ev rfl)) <| pm rfl <| PR.nil) ?_;clear hF fa;intro fa hF;refine ak ?_;refine c_block ?_;refine sS (λmu fa w'=>∃o:List Nat,∃i:Nat,Frm 68 fa [(0,(.slice (A_a) (a.length) (c_a))),(1,(.slice (A_b) (b.length) (c_b))),(4,(.slice (none) (0) (0))),(5,(.slice (some ⟨g1,0,none⟩) (a.length+b.length) (a.length+b.length))),(18,(.slice (A_a) (a.length) (c_a))),(19,(.int .i64 (((a.length:Nat):Int)))),(20,(.int .i64 (((i:Nat):Int))))]/\St w w' [(g1,154,(us (o)).toArray)]/\Ext w2 (g1::X) w' (g1::X)/\(i<=a.length)/\(o.length=a.length+b.length)/\(Lb o)/\(val (o.take (i+b.length))=val (a.take i)*val b)/\a.length-i=mu) ?_ ?_
 ·
  exact⟨_,List.replicate (a.length+b.length) 0,0,(hF.all ⟨rfl,rfl,rfl,rfl,rfl,rfl,(aX rfl ω),trivial⟩),hS,Ext.refl _ _,ω,η,(fD _),(by simp[oH,List.take_replicate,val]),rfl⟩
 clear hF fa;intro n0_ fa w' hI;clear hS;obtain⟨o,i,hF,hS,E6,hi,ho,hbo,hv,rfl⟩:=hI
 rename World=>w5
 refine c_seq ?_;refine c_reg ?_;refine pr hF (pg (λ_ hF=>ex_lss (hF.ev rfl) (hF.ev rfl)) <| PR.nil) ?_;clear hF fa;intro fa hF;refine ak ?_;refine c_seq ?_;refine fO hF rfl (λhc7=>?_) (λhc7=>?_)
 ·
  have hc7p:((i:Nat):Int)<((a.length:Nat):Int):=by first|simpa using hc7|exact bP hc7|exact bQ hc7
  refine c_skip ?_;refine x_tn ?_;refine c_seq ?_;refine c_block ?_;refine c_seq ?_;refine c_reg ?_;refine pr hF (pm rfl <| PR.nil) ?_;clear hF fa;intro fa hF;obtain⟨ad8,hA9,hq10⟩:=(hu_a.ext (E3.trans E6)).cl.at_ (jf (l:=a) (i:=i) ω);refine pr hF (pg (λ_ hF=>je (j:=i) TfE.sl26 (hF.ev rfl) hA9 (hF.ev rfl) ω ω) <| pg (λ_ hF=>ex_load1 TfE.one154 (hF.ev rfl) hq10) <| pa rfl <| pa rfl <| PR.nil) ?_;clear hF fa;intro fa hF;refine ak ?_;refine c_seq ?_;refine c_reg ?_;refine pr hF (pa rfl <| PR.nil) ?_;clear hF fa;intro fa hF;refine ak ?_;refine c_seq ?_;refine c_seq ?_;refine c_reg ?_;refine pr hF (pm rfl <| pg (λ_ hF=>jg TfE.sls26 (hF.ev rfl)) <| pm rfl <| PR.nil) ?_;clear hF fa;intro fa hF;refine ak ?_;refine c_block ?_;refine sS (λmu fa w'=>∃o2:List Nat,∃cr:Nat,∃k:Nat,Frm 68 fa [(0,(.slice (A_a) (a.length) (c_a))),(1,(.slice (A_b) (b.length) (c_b))),(4,(.slice (none) (0) (0))),(5,(.slice (some ⟨g1,0,none⟩) (a.length+b.length) (a.length+b.length))),(18,(.slice (A_a) (a.length) (c_a))),(19,(.int .i64 (((a.length:Nat):Int)))),(20,(.int .i64 (((i:Nat):Int)))),(21,(.bool (decide (((i:Nat):Int)<((a.length:Nat):Int))))),(6,(.int .i64 (((i:Nat):Int)))),(7,(.int .u32 (((a.getD (i) 0:Nat):Int)))),(25,(.slice (A_b) (b.length) (c_b))),(26,(.int .i64 (((b.length:Nat):Int)))),(8,(.int .u64 (((cr:Nat):Int)))),(27,(.int .i64 (((k:Nat):Int))))]/\St w w' [(g1,154,(us (o2)).toArray)]/\Ext w5 (g1::X) w' (g1::X)/\(k<=b.length)/\(o2.length=a.length+b.length)/\(Lb o2)/\(cr<1000000000)/\(val (o2.take (i+b.length))+1000000000^(i+k)*cr=val (a.take i)*val b+1000000000^i*(a.getD i 0*val (b.take k)))/\b.length-k=mu) ?_ ?_
  ·
   exact⟨_,o,0,0,(hF.all ⟨rfl,rfl,rfl,rfl,rfl,rfl,rfl,rfl,rfl,rfl,rfl,rfl,(aX rfl ω),(aX rfl ω),trivial⟩),hS,Ext.refl _ _,ω,(ho),(hbo),ω,(by simp[val,hv]),rfl⟩
  clear hF fa;intro n1_ fa w' hI;clear hS;obtain⟨o2,cr,k,hF,hS,E12,hk,ho2,hbo2,hcr,hv2,rfl⟩:=hI
  rename World=>Aw
  have hak:=hb_a.getD i;have hbk:=hb_b.getD k;have hok:=hbo2.getD (i+k);have hca:=yu hak hbk hok hcr;have hca1:=hca.1;have hca2:=hca.2;refine c_seq ?_;refine c_reg ?_;refine pr hF (pg (λ_ hF=>ex_lss (hF.ev rfl) (hF.ev rfl)) <| PR.nil) ?_;clear hF fa;intro fa hF;refine ak ?_;refine c_seq ?_;refine fO hF rfl (λhc13=>?_) (λhc13=>?_)
  ·
   have hc13p:((k:Nat):Int)<((b.length:Nat):Int):=by first|simpa using hc13|exact bP hc13|exact bQ hc13
   refine c_skip ?_;refine x_tn ?_;refine c_seq ?_;refine c_block ?_;refine c_seq ?_;refine c_reg ?_;refine pr hF (pm rfl <| PR.nil) ?_;clear hF fa;intro fa hF;obtain⟨ad14,hA15,hq16⟩:=(hu_b.ext ((E3.trans E6).trans E12)).cl.at_ (jf (l:=b) (i:=k) ω);refine pr hF (pg (λ_ hF=>je (j:=k) TfE.sl26 (hF.ev rfl) hA15 (hF.ev rfl) ω ω) <| pg (λ_ hF=>ex_load1 TfE.one154 (hF.ev rfl) hq16) <| pa rfl <| pa rfl <| PR.nil) ?_;clear hF fa;intro fa hF;replace hF:Frm 68 fa [(0,(.slice (A_a) (a.length) (c_a))),(1,(.slice (A_b) (b.length) (c_b))),(4,(.slice (none) (0) (0))),(5,(.slice (some ⟨g1,0,none⟩) (a.length+b.length) (a.length+b.length))),(18,(.slice (A_a) (a.length) (c_a))),(19,(.int .i64 (((a.length:Nat):Int)))),(20,(.int .i64 (((i:Nat):Int)))),(21,(.bool (decide (((i:Nat):Int)<((a.length:Nat):Int))))),(6,(.int .i64 (((i:Nat):Int)))),(7,(.int .u32 (((a.getD (i) 0:Nat):Int)))),(25,(.slice (A_b) (b.length) (c_b))),(26,(.int .i64 (((b.length:Nat):Int)))),(8,(.int .u64 (((cr:Nat):Int)))),(27,(.int .i64 (((k:Nat):Int)))),(28,(.bool (decide (((k:Nat):Int)<((b.length:Nat):Int))))),(9,(.int .i64 (((k:Nat):Int)))),(10,(.int .u32 (((b.getD (k) 0:Nat):Int))))]:=(hF.all ⟨rfl,rfl,rfl,rfl,rfl,rfl,rfl,rfl,rfl,rfl,rfl,rfl,rfl,rfl,rfl,rfl,rfl,trivial⟩)
   refine ak ?_;refine c_seq ?_;refine c_reg ?_;refine pr hF (pm rfl <| pm rfl <| pm rfl <| pg (λ_ hF=>ex_add (hF.ev rfl) (hF.ev rfl) gI) <| pg (λ_ hF=>kL (j:=i+k) TfE.sl26 (hF.ev rfl) (hF.ev rfl) ω ω) <| pg (λ_ hF=>eP TfE.one154 (hF.ev rfl) (hS.get 0 rfl) (VT (by first|omega|(simp;omega)))) <| pg (λ_ hF=>ex_conv TfE.unds154 TfE.und152 (hF.ev rfl) (iT ω)) <| pm rfl <| pg (λ_ hF=>ex_conv TfE.unds154 TfE.und152 (hF.ev rfl) (iT ω)) <| pm rfl <| pg (λ_ hF=>ex_conv TfE.unds154 TfE.und152 (hF.ev rfl) (iT ω)) <| pg (λ_ hF=>ex_mul (hF.ev rfl) (hF.ev rfl) jE) <| pg (λ_ hF=>ex_add (hF.ev rfl) (hF.ev rfl) jE) <| pm rfl <| pg (λ_ hF=>ex_add (hF.ev rfl) (hF.ev rfl) jE) <| pa rfl <| PR.nil) ?_;clear hF fa;intro fa hF;replace hF:Frm 68 fa [(0,(.slice (A_a) (a.length) (c_a))),(1,(.slice (A_b) (b.length) (c_b))),(4,(.slice (none) (0) (0))),(5,(.slice (some ⟨g1,0,none⟩) (a.length+b.length) (a.length+b.length))),(18,(.slice (A_a) (a.length) (c_a))),(19,(.int .i64 (((a.length:Nat):Int)))),(20,(.int .i64 (((i:Nat):Int)))),(21,(.bool (decide (((i:Nat):Int)<((a.length:Nat):Int))))),(6,(.int .i64 (((i:Nat):Int)))),(7,(.int .u32 (((a.getD (i) 0:Nat):Int)))),(25,(.slice (A_b) (b.length) (c_b))),(26,(.int .i64 (((b.length:Nat):Int)))),(8,(.int .u64 (((cr:Nat):Int)))),(27,(.int .i64 (((k:Nat):Int)))),(28,(.bool (decide (((k:Nat):Int)<((b.length:Nat):Int))))),(9,(.int .i64 (((k:Nat):Int)))),(10,(.int .u32 (((b.getD (k) 0:Nat):Int)))),(11,(.int .u64 ((((o2.getD (i+k) 0:Nat):Int)+(((a.getD (i) 0:Nat):Int)*((b.getD (k) 0:Nat):Int)))+((cr:Nat):Int))))]:=(hF.all ⟨rfl,rfl,rfl,rfl,rfl,rfl,rfl,rfl,rfl,rfl,rfl,rfl,rfl,rfl,rfl,rfl,rfl,rfl,trivial⟩)
   refine ak ?_;refine c_reg ?_;refine pr hF (pm rfl <| pm rfl <| pm rfl <| pg (λ_ hF=>ex_add (hF.ev rfl) (hF.ev rfl) gI) <| pm rfl <| pg (λ_ hF=>ex_rem (hF.ev rfl) (hF.ev rfl) ω (Il (x:=((o2.getD (i+k) 0)+((a.getD (i) 0)*(b.getD (k) 0)))+cr) (y:=1000000000) ω ω)) <| pg (λ_ hF=>ex_conv TfE.unds152 TfE.und154 (hF.ev rfl) (zB ω)) <| pm rfl <| pg (λ_ hF=>ex_quo (hF.ev rfl) (hF.ev rfl) ω (D6 (x:=((o2.getD (i+k) 0)+((a.getD (i) 0)*(b.getD (k) 0)))+cr) (y:=1000000000) ω ω ω)) <| pg (λ_ hF=>kL (j:=i+k) TfE.sl26 (hF.ev rfl) (hF.ev rfl) ω ω) <| PR.nil) ?_;clear hF fa;intro fa hF;refine st rfl (fC (vs:=#[.int .u32 (((((o2.getD (i+k) 0)+((a.getD (i) 0)*(b.getD (k) 0)))+cr)%1000000000:Nat):Int)]) (v:=.int .u32 (((((o2.getD (i+k) 0)+((a.getD (i) 0)*(b.getD (k) 0)))+cr)%1000000000:Nat):Int)) (X:=(g1::X)) hF hS 0 rfl η rfl (fP rfl ω) rfl TfE.size154 rfl (Bc (by first|omega|(simp;omega))) ?_);intro w17 hS E18;rw[oq (by first|omega|(simp;omega))]at hS;refine pr hF (pa rfl <| PR.nil) ?_;clear hF fa;intro fa hF;refine fQ ?_;refine x_bn ?_;refine x_tn ?_;refine c_reg ?_;refine pr hF (pg (λ_ hF=>ex_add (hF.ev rfl) (hF.ev rfl) gI) <| pm rfl <| PR.nil) ?_;clear hF fa;intro fa hF;refine fQ ?_;refine x_tn ?_;exact⟨_,ω,o2.set (i+k) ((((o2.getD (i+k) 0)+((a.getD (i) 0)*(b.getD (k) 0)))+cr)%1000000000),(((o2.getD (i+k) 0)+((a.getD (i) 0)*(b.getD (k) 0)))+cr)/1000000000,(k+1),(hF.all ⟨rfl,rfl,rfl,rfl,rfl,rfl,rfl,rfl,rfl,rfl,rfl,rfl,(aX rfl ω),(aX rfl ω),trivial⟩),hS,(E12.trans E18),ω,κ,(cZ hbo2 ω),ω,(qj ω ω hv2 ω rfl rfl),rfl⟩
  have hc13p:¬(((k:Nat):Int)<((b.length:Nat):Int)):=by first|simpa using hc13|exact bP hc13|exact bQ hc13
  refine c_exit ?_;refine x_te ?_;refine x_te ?_;refine x_bh ?_;refine x_tn ?_;refine c_reg ?_;refine pr hF (pm rfl <| pm rfl <| pm rfl <| pg (λ_ hF=>jg TfE.sls26 (hF.ev rfl)) <| pg (λ_ hF=>ex_add (hF.ev rfl) (hF.ev rfl) gI) <| pm rfl <| pg (λ_ hF=>ex_conv TfE.unds152 TfE.und154 (hF.ev rfl) (zB ω)) <| pg (λ_ hF=>kL (j:=i+b.length) TfE.sl26 (hF.ev rfl) (hF.ev rfl) ω ω) <| PR.nil) ?_;clear hF fa;intro fa hF;refine st rfl (fC (vs:=#[.int .u32 ((cr:Nat):Int)]) (v:=.int .u32 ((cr:Nat):Int)) (X:=(g1::X)) hF hS 0 rfl η rfl (fP rfl ω) rfl TfE.size154 rfl (Bc (by first|omega|(simp;omega))) ?_);intro w19 hS E20;rw[oq (by first|omega|(simp;omega))]at hS;replace hF:Frm 68 fa [(0,(.slice (A_a) (a.length) (c_a))),(1,(.slice (A_b) (b.length) (c_b))),(4,(.slice (none) (0) (0))),(5,(.slice (some ⟨g1,0,none⟩) (a.length+b.length) (a.length+b.length))),(18,(.slice (A_a) (a.length) (c_a))),(19,(.int .i64 (((a.length:Nat):Int)))),(20,(.int .i64 (((i:Nat):Int)))),(21,(.bool (decide (((i:Nat):Int)<((a.length:Nat):Int))))),(6,(.int .i64 (((i:Nat):Int)))),(7,(.int .u32 (((a.getD (i) 0:Nat):Int)))),(25,(.slice (A_b) (b.length) (c_b))),(26,(.int .i64 (((b.length:Nat):Int)))),(8,(.int .u64 (((cr:Nat):Int)))),(27,(.int .i64 (((k:Nat):Int)))),(28,(.bool (decide (((k:Nat):Int)<((b.length:Nat):Int)))))]:=(hF.all ⟨rfl,rfl,rfl,rfl,rfl,rfl,rfl,rfl,rfl,rfl,rfl,rfl,rfl,rfl,rfl,trivial⟩)
  refine fQ ?_;refine x_bn ?_;refine x_tn ?_;refine c_reg ?_;refine pr hF (pg (λ_ hF=>ex_add (hF.ev rfl) (hF.ev rfl) gI) <| pm rfl <| PR.nil) ?_;clear hF fa;intro fa hF;refine fQ ?_;refine x_tn ?_;exact⟨_,ω,o2.set (i+b.length) (cr),(i+1),(hF.all ⟨rfl,rfl,rfl,rfl,rfl,rfl,(aX rfl ω),trivial⟩),hS,((E6.trans E12).trans E20),ω,κ,(cZ hbo2 ω),(tu ω (by rw[show k=b.length by omega]at hv2;exact hv2)),rfl⟩
 have hc7p:¬(((i:Nat):Int)<((a.length:Nat):Int)):=by first|simpa using hc7|exact bP hc7|exact bQ hc7
 refine c_exit ?_;refine x_te ?_;refine x_te ?_;refine x_bh ?_;refine x_tn ?_;refine c_seq ?_;refine c_reg ?_;refine pr hF (pm rfl <| pa rfl <| PR.nil) ?_;clear hF fa;intro fa hF;refine ak ?_;refine c_ret ?_;rw[aU (l:=o) ω,aU (l:=a) ω]at hv;refine WR hF rfl (jh hF rfl) ?_;exact⟨_,rfl,⟨o,(Own.mk_ (L:=o) (hS.get 0 rfl) (hS.base 0 rfl) ω ω (rfl)),(hbo),(hv),(ho)⟩,hS.below⟩
end Go.Proofs.YtmniihkenijjpaaGreatDoor
