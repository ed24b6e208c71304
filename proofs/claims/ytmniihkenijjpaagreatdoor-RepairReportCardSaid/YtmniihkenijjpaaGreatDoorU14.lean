/-
  Rules of the abstract run, plain laws, and what functions answer, for the law RepairReport.
  Conditions: none.
-/
import Derived.Test.YtmniihkenijjpaaGreatDoorU13
import Derived.Lib.Itoa
import Derived.Lib.Walk
import Derived.Shelf.Strconv.Itoa1
import Derived.Lib.ItoaNum
import Derived.Lib.ItoaLen
import Derived.Lib.AppendStr
import Derived.Shelf.SlicesE.Clone
set_option linter.all false
namespace Go.Sw
open Go Go.RowKit
theorem laid_mem{P:Program}{w:World}:∀{l:List (String×DataW Unit)} {ps:List MemPlace},DataW.LaidVars P w l ps->∀x∈l,∃g t cs fuel p,P.globalNamed x.1=some g/\(P.globals[g]?).map (·.type)=some t/\w.var? P x.1=some cs/\DataW.trod (λ_=>()) P w 0 (λ_=>true) false fuel t cs.toList=some (x.2,p)
 |[],_,_,x,hx=>by cases hx
 |(n,d)::r,ps,h,x,hx=>by
  obtain⟨g,t,cs,fuel,p,q,h1,h2,h3,h4,h5,_⟩:=h;rcases pV.1 hx with rfl|hx
  .exact⟨g,t,cs,fuel,p,h1,h2,h3,h4⟩
  .exact laid_mem h5 x hx
theorem tab_of{P:Program}{W:World}{l:List (String×DataW Unit)}{nm:String}{k:IntKind}{zs:List Int}{g:Nat}{t e:TypeId}(h:laidMet P l W)(hm:(nm,DataW.agg (zs.map λz => .lit (.int k z)))∈l)
 (hg:P.globalNamed nm=some g) (htg:(P.globals[g]?).map (·.type)=some t) (ht:P.underlying t=some (.array zs.length e)) (he:P.underlying e=some (.int k)) (ce:P.cellsOf e=1) (ct:P.cellsOf t=zs.length):Lib.TabIs P W nm k zs:=by
 obtain⟨ps,hl,_⟩:=h;obtain⟨g0,t0,cs,fuel,p,hg0,ht0,hv,hd⟩:=laid_mem hl _ hm;obtain rfl:=Jv (hg.symm.trans hg0);obtain rfl:=Jv (htg.symm.trans ht0);obtain⟨xs,m,_,ex,hlen,hxl,hel⟩:=DataW.trod_array ht hd
 have e1:zs.map (λz=>DataW.lit (.int k z))=xs.map (·.1):=by
  have:=(Prod.mk.inj ex).1;exact DataW.agg.inj this
 unfold Lib.TabIs;rw[hv];congr 1;apply yD;rw[List.toArray];show cs.toList=zs.map (Value.int k);apply List.ext_getElem
 .rw[hlen,ct,aG]
 .intro i h1 h2;have hi:i<zs.length:=by simpa using h2
  have h3:=hel i hi;rw[ce,Nat.mul_one]at h3;have hx:xs[i]?=some xs[i]:=fM ω;rw[hx]at h3;obtain⟨n,a,b,_⟩:=DataW.trod_int he h3;have h4:(zs.map (λz=>DataW.lit (H:=Unit) (.int k z)))[i]?=(xs.map (·.1))[i]?:=by rw[e1]
  rw[wz,wz,fM hi,hx,b]at h4;simp at h4
  have h5:cs.toList[i]?=some (.int k n):=by
   have:((cs.toList.drop i).take 1)[0]?=some (.int k n):=by rw[a];rfl
   rw[wL,if_pos ω,BL,OY]at this;exact this
  rw[fM h1]at h5;rw[Jv h5,List.getElem_map,h4]
theorem tab_keep{P:Program}{w w':World}{nm:String}{k:IntKind}{zs:List Int}(h:Lib.TabIs P w nm k zs)(hb:Below w.heap.size w w'):Lib.TabIs P w' nm k zs:=by
 unfold Lib.TabIs World.var? at h ⊢;cases hg:P.globalNamed nm with
 |none=>rw[hg]at h;cases h
 |some g =>
  rw[hg]at h;simp only[Jl]at h ⊢
  have hl:g<w.heap.size:=by
   rcases yP g w.heap.size with h'|h'
   .exact h'
   .rw[Array.getElem?_eq_none h']at h;cases h
  rw[hb.block g hl];exact h
end Go.Sw
namespace Go.Sw
open Go Go.Lib
def lD:Nat->Nat->List UInt8
 |0,_=>[]
 |k+1,n=>lD k (n/10)++[UInt8.ofNat (48+n%10)]
theorem yh:∀(k n:Nat),(lD k n).length=k
 |0,_=>rfl
 |k+1,n=>by rw[lD,bF,yh k];rfl
theorem jO{n:Nat}(h:n<10):decDigits n=[UInt8.ofNat (48+n)]:=by rw[decDigits,dif_pos h]
theorem vT{n:Nat}(h:¬n<10):decDigits n=decDigits (n/10)++[UInt8.ofNat (48+n%10)]:=by rw[decDigits,dif_neg h]
theorem Ho(n:Nat):0<(decDigits n).length:=by rw[decDigits_length];exact nDigits_pos n
theorem IB:∀(k a x:Nat),0<a->x<10^k->decDigits (a*10^k+x)=decDigits a++lD k x
 |0,a,x,ha,hx=>by
  have:x=0:=by simpa using hx
  subst this;simp[lD]
 |k+1,a,x,ha,hx=>by
  have hp:10^(k+1)=10^k*10:=rG 10 k;have h1:0<10^k:=Nat.pow_pos ψ;have e:a*10^(k+1)+x=(a*10^k)*10+x:=by rw[hp,Na]
  have hge:¬(a*10^(k+1)+x)<10:=by
   have:=Nat.mul_pos ha h1;omega
  have hd:(a*10^(k+1)+x)/10=a*10^k+x/10:=ω
  have hm:(a*10^(k+1)+x)%10=x%10:=ω
  rw[vT hge,hd,hm,IB k a (x/10) ha ω,lD,jQ]
theorem vW:∀(k n:Nat),0<k->n<10^k->lD k n=List.replicate (k-nDigits n) 48++decDigits n
 |0,n,hk,_=>absurd hk ψ
 |1,n,_,h=>by
  have h:n<10:=by simpa using h
  rw[nDigits_small h,jO h];simp[lD,GL h]
 |k+2,n,_,h=>by
  have hp:10^(k+2)=10^(k+1)*10:=rG 10 (k+1);rw[lD,vW (k+1) (n/10) ω ω]
  by_cases h10:n<10
  .have h0:n/10=0:=ω
   rw[h0,nDigits_small h10,nDigits_small (show 0<10 by decide),jO h10,jO (show 0<10 by decide),GL h10];rw[show k+2-1=(k+1-1)+1 by omega,List.replicate_succ'];rfl
  .rw[nDigits_big h10,vT h10,show k+2-(nDigits (n/10)+1)=k+1-nDigits (n/10) by omega,jQ]
theorem qB{k n:Nat}(hk:0<k)(h:n<10^k):nDigits n<=k:=by
 have h1:=yh k n;rw[vW k n hk h,bF,rV,decDigits_length]at h1;omega
theorem Ib:∀(j k n:Nat),lD (k+j) n=lD k (n/10^j)++lD j n
 |0,k,n=>by simp[lD]
 |j+1,k,n=>by
  show lD (k+j+1) n=_;rw[lD,Ib j k (n/10),lD,Ya,<-Nat.pow_succ',jQ]
theorem Nw:∀(n:Nat),0<n->∃d r,decDigits n=d::r/\d≠48
 |n,hn=>by
  induction n using Nat.strongRecOn with
  |_ n ih =>
   by_cases h:n<10
   .refine⟨_,_,jO h,λe=>?_⟩;have:n=1\/n=2\/n=3\/n=4\/n=5\/n=6\/n=7\/n=8\/n=9:=ω
    rcases this with rfl|rfl|rfl|rfl|rfl|rfl|rfl|rfl|rfl<;>revert e<;>decide
   .obtain⟨d,r,h1,h2⟩:=ih (n/10) ω ω;exact⟨d,r++[UInt8.ofNat (48+n%10)],by rw[vT h,h1];rfl,h2⟩
def nO(n:Nat):ByteArray:=⟨(decDigits n).toArray⟩
def jl(n:Int):ByteArray:=⟨((if n<0 then[45]else[])++decDigits n.natAbs).toArray⟩
def BR(n:Nat):List Nat:=(decDigits n).map λb=>b.toNat
theorem KX{k:Nat}(h:k<10):(UInt8.ofNat (48+k)).toNat=48+k:=by
 have:k=0\/k=1\/k=2\/k=3\/k=4\/k=5\/k=6\/k=7\/k=8\/k=9:=ω
 rcases this with rfl|rfl|rfl|rfl|rfl|rfl|rfl|rfl|rfl|rfl<;>rfl
theorem sW{n:Nat}(h:n<10):BR n=[48+n]:=by unfold BR;rw[jO h,bK,KX h];rfl
theorem Ie{n:Nat}(h:¬n<10):BR n=BR (n/10)++[48+n%10]:=by
 unfold BR;rw[vT h,bH,bK,KX (mY _ ψ)];rfl
theorem abn(n:Nat):uU (BR n)=n:=by
 induction n using Nat.strongRecOn with
 |_ n ih =>
  by_cases h:n<10
  .rw[sW h];simp[uU]
  .rw[Ie h,Js,ih (n/10) ω];omega
theorem Xa(n:Nat):∀c∈BR n,48<=c/\c<=57:=by
 induction n using Nat.strongRecOn with
 |_ n ih =>
  intro c hc
  by_cases h:n<10
  .rw[sW h]at hc;simp at hc;omega
  .rw[Ie h]at hc;rcases jP.1 hc with g|g
   .exact ih (n/10) ω c g
   .simp at g;omega
theorem Rl(n:Nat):(BR n).length=nDigits n:=by unfold BR;rw[aG,decDigits_length]
theorem Lc{n:Nat}(h:0<n):(BR n).getD 0 0≠48:=by
 obtain⟨d,r,h1,h2⟩:=Nw n h;unfold BR;rw[h1];show d.toNat≠48;intro e;exact h2 (UInt8.toNat_inj.1 (by rw[e];rfl))
theorem KL(l:List UInt8):kS ⟨l.toArray⟩=l.map λb=>b.toNat:=rfl
theorem rU(n:Int):kS (jl n)=(if n<0 then[45]else[])++BR n.natAbs:=by
 unfold jl;rw[KL,bH];congr 1;split<;>rfl
theorem Wu(n:Nat):(BR n).take 1≠[45]:=by
 intro e;have h:45∈BR n:=Uh (i:=1) (by rw[e];exact uy.2 rfl);have:=(Xa n 45 h).1;omega
theorem sV(n:Int):(jl n).size=(if n<0 then 1 else 0)+nDigits n.natAbs:=by
 rw[<-ji,rU,bF,Rl];congr 1;split<;>rfl
theorem Rx(a b:ByteArray):kS (a++b)=kS a++kS b:=by
 unfold kS;rw[ByteArray.data_append,Array.toList_append,bH]
theorem Bf:∀(i m:Nat),(lim m).getD i 0=m/1000000000^i%1000000000
 |0,m=>by
  by_cases h:m=0
  .subst h;rw[dK];rfl
  .rw[iD h];simp
 |i+1,m=>by
  by_cases h:m=0
  .subst h;simp[dK]
  .rw[iD h,List.getD_cons_succ,Bf i,Ya,<-Nat.pow_succ']
theorem OI:∀(i m:Nat),i<(lim m).length->0<m/1000000000^i
 |0,m,h=>by
  have:m≠0:=λe=>by subst e;rw[dK]at h;exact absurd h ψ
  simp;omega
 |i+1,m,h=>by
  have:m≠0:=λe=>by subst e;rw[dK]at h;exact absurd h η
  rw[iD this,bn]at h;have:=OI i (m/1000000000) ω
  rwa [Ya,<-Nat.pow_succ']at this
theorem vK(m:Nat):m<1000000000^(lim m).length:=by
 have:=dO (lim m) (aI m)
 rwa [aB]at this
theorem WA{i m:Nat}(h:i<(lim m).length):(lim m)[i]?=some (m/1000000000^i%1000000000):=by
 have:=Bf i m;rw[iI,fM h]at this;rw[fM h];exact congrArg some this
theorem Du{m:Nat}(h:0<(lim m).length):m/1000000000^((lim m).length-1)%1000000000=m/1000000000^((lim m).length-1):=by
 apply GL;apply Nat.div_lt_of_lt_mul;have:=vK m
 rwa [<-rG,show((lim m).length-1).succ=(lim m).length by omega]
theorem D8{m i:Nat}(h:i+1<(lim m).length):
 decDigits (m/1000000000^i)=decDigits (m/1000000000^(i+1))++List.replicate (9-nDigits (m/1000000000^i%1000000000)) 48++decDigits (m/1000000000^i%1000000000):=by
 have h1:=OI (i+1) m h;have hx:m/1000000000^i%1000000000<10^9:=mY _ ψ;have e:m/1000000000^(i+1)=m/1000000000^i/1000000000:=by rw[Ya,rG]
 rw[jQ,<-vW 9 _ ψ hx,<-IB 9 _ _ h1 hx,e];congr 1;have:=Nat.div_add_mod (m/1000000000^i) 1000000000;omega
theorem CW{m i:Nat}(h:0<(lim m).length):(decDigits (m/1000000000^i)).length<=9*(lim m).length:=by
 rw[decDigits_length];apply qB ω;refine Nat.lt_of_le_of_lt (ES _ _) ?_;rw[Nat.pow_mul];exact vK m
theorem vg{x:Nat}(h:x<1000000000):1<=nDigits x/\nDigits x<=9:=⟨nDigits_pos x,qB ψ h⟩
def bv(l:List UInt8):List Value:=l.map λb => .int .u8 (b.toNat:Int)
theorem Ld(l:List UInt8):(bv l).length=l.length:=by unfold bv;simp
theorem sO(a b:List UInt8):bv (a++b)=bv a++bv b:=by unfold bv;rw[bH]
theorem KW(l:List UInt8):strCells ⟨l.toArray⟩=bv l:=rfl
theorem oK(n:Nat):(nO n).size=nDigits n:=by
 show(decDigits n).toArray.size=_;rw[Ip,decDigits_length]
open Go.RowKit
def tH(d m:Nat):ByteArray:=⟨(lD d m).toArray⟩
def EC(j m:Nat):ByteArray:=⟨(List.replicate j 48++decDigits m).toArray⟩
theorem Jr(d m:Nat):(tH d m).size=d:=by
 show(lD d m).toArray.size=d;rw[Ip,yh]
theorem GX{k:Nat}(h:k<10):Utf8.encode ((48+k:Nat):Int)=⟨#[UInt8.ofNat (48+k)]⟩:=by
 have:k=0\/k=1\/k=2\/k=3\/k=4\/k=5\/k=6\/k=7\/k=8\/k=9:=ω
 rcases this with rfl|rfl|rfl|rfl|rfl|rfl|rfl|rfl|rfl|rfl<;>decide +kernel
theorem Ny{m x k:Nat}(hk:k<9):m/1000000000^x%1000000000/10^k%10=m/10^(9*x+k)%10:=by
 have e:m/10^(9*x+k)=m/1000000000^x/10^k:=by rw[Ya,Nat.pow_add,Nat.pow_mul]
 rw[e];generalize m/1000000000^x=a;have h9:(1000000000:Nat)=10^k*10^(9-k):=by rw[<-Nat.pow_add,show k+(9-k)=9 by omega]
 rw[h9,Nat.mod_mul_right_div_self];exact Nat.mod_mod_of_dvd _ ⟨10^(8-k),by rw[<-Nat.pow_succ',show(8-k).succ=9-k by omega]⟩
theorem OX(d m:Nat):lD (d+1) m=UInt8.ofNat (48+m/10^d%10)::lD d m:=by
 rw[Nat.add_comm d 1,Ib d 1 m];rfl
theorem CG{m x k:Nat}(hk:k<9):IntKind.i32.wrap (IntKind.u32.wrap (48+(((m/1000000000^x%1000000000/10^k:Nat):Int)).tmod 10))=((48+m/10^(9*x+k)%10:Nat):Int):=by
 rw[<-Ny hk];generalize m/1000000000^x%1000000000/10^k=q;rw[Int.tmod_eq_emod_of_nonneg (Int.natCast_nonneg q),IntKind.wrap_u32,IntKind.wrap_i32];omega
theorem Ql{m x k:Nat}(hk:k<9):
 some (AV.c (Cell.v (.string (Utf8.encode (IntKind.i32.wrap (IntKind.u32.wrap (48+(((m/1000000000^x%1000000000/10^k:Nat):Int)).tmod 10)))++tH (9*x+k) m))))=some (AV.str (tH (9*x+(k+1)) m)):=by
 have:Utf8.encode (IntKind.i32.wrap (IntKind.u32.wrap (48+(((m/1000000000^x%1000000000/10^k:Nat):Int)).tmod 10)))++tH (9*x+k) m=tH (9*x+(k+1)) m:=by
  rw[CG hk,GX (mY _ ψ)];unfold tH;rw[<-Nat.add_assoc,OX,ByteArray.ext_iff,ByteArray.data_append];simp
 rw[this]
theorem V6{m x k:Nat}(hk:k<9):(Utf8.encode (IntKind.i32.wrap (IntKind.u32.wrap (48+(((m/1000000000^x%1000000000/10^k:Nat):Int)).tmod 10)))).size=1:=by
 rw[CG hk,GX (mY _ ψ)];rfl
theorem Qn{m x k:Nat}:IntKind.u32.wrap (((m/1000000000^x%1000000000/10^k:Nat):Int).tdiv 10)=((m/1000000000^x%1000000000/10^(k+1):Nat):Int):=by
 have h1:m/1000000000^x%1000000000/10^k<=m/1000000000^x%1000000000:=ES _ _;have h2:=mY (m/1000000000^x) (show 0<1000000000 by decide);rw[rG,<-Ya];generalize m/1000000000^x%1000000000/10^k=q at h1 ⊢;rw[Int.tdiv_eq_ediv_of_nonneg (Int.natCast_nonneg q),IntKind.wrap_u32];omega
theorem RH(m x:Nat):some (AV.c (Cell.v (u32 ((lim m).getD x 0))))=some (AV.int .u32 ((m/1000000000^x%1000000000/10^0:Nat):Int)):=by
 rw[Bf,Nat.pow_zero,Nat.div_one];rfl
theorem QN{m x k:Nat}(h1:k<=9)(h2:¬(k:Int)<9):some (AV.str (tH (9*x+k) m))=some (AV.str (tH (9*(x+1)) m)):=by rw[show 9*x+k=9*(x+1) by omega]
theorem Rj{m:Nat}(h:0<(lim m).length):tH (9*(lim m).length) m=EC (9*(lim m).length-nDigits m) m:=by
 unfold tH EC;rw[vW _ _ ω (by rw[Nat.pow_mul];exact vK m)]
theorem QX{m x:Nat}(h:0<(lim m).length)(h1:x<=(lim m).length)(h2:¬(x:Int)<((lim m).length:Nat)):some (AV.str (tH (9*x) m))=some (AV.str (EC (9*(lim m).length-nDigits m) m)):=by rw[show x=(lim m).length by omega,Rj h]
theorem CZ(j m:Nat):(EC j m).size=j+nDigits m:=by
 show(List.replicate j 48++decDigits m).toArray.size=_;rw[Ip,bF,rV,decDigits_length]
theorem tZ(j m:Nat):kS (EC j m)=List.replicate j 48++BR m:=by
 unfold EC;rw[KL,bH,List.map_replicate];rfl
theorem TU{j m:Nat}(hm:0<m)(h:¬(((kS (EC j m)).getD 0 0:Nat):Int)=48):j=0:=by
 cases j with
 |zero=>rfl
 |succ j=>rw[tZ,List.replicate_succ]at h;exact absurd rfl h
theorem ac9{j m:Nat}(hm:0<m)(h:(((kS (EC j m)).getD 0 0:Nat):Int)=48):0<j:=by
 cases j with
 |zero =>
  rw[tZ,List.replicate_zero,mX]at h;exact absurd ω (Lc hm)
 |succ j=>omega
theorem VZ{j m:Nat}(h:0<j):(EC j m).extract 1 (EC j m).size=EC (j-1) m:=by
 apply qO;rw[Tn,show(EC j m).size=(kS (EC j m)).length from(ji _).symm,xY,tZ,tZ];cases j with
 |zero=>exact absurd h ψ
 |succ j=>rfl
theorem KU{n:Int}(h:n<0):(⟨#[45]⟩:ByteArray)++EC 0 n.natAbs=jl n:=by
 apply qO;rw[Rx,tZ,rU,if_pos h];rfl
theorem LX{n:Int}(h:¬n<0):EC 0 n.natAbs=jl n:=by
 apply qO;rw[tZ,rU,if_neg h];rfl
theorem VO:(⟨#[48]⟩:ByteArray)=jl 0:=by
 apply qO;rw[rU,show(0:Int).natAbs=0 from rfl,sW ψ];rfl
theorem LQ{n:Int}{k:Nat}(h:sz n<=k)(hk:0<k):nDigits n.natAbs<=9*k:=by
 apply qB ω;refine AP (vK n.natAbs) ?_;rw[Nat.pow_mul];exact BZ ψ h
theorem RJ{n:Int}{k:Nat}(h:sz n<=k)(hk:0<k):(jl n).size<=9*k+1:=by
 have:=LQ h hk;rw[sV];split<;>omega
end Go.Sw
namespace Go.Sw
open Go
structure EntR where
 kind:Int
 layer:ByteArray
 pts:List (Rq×Rq)
 rad:Rq
structure LayD where
 name:ByteArray
 kind:Int
 depth:Int
@[reducible] def Gs(r:Rq):List Cell:=[.v (.bool r.a),lmc r.l,.v (.bool r.b),lmc r.m]
@[reducible] def iY(p:Rq × Rq):List Cell:=[.v (.bool p.1.a),lmc p.1.l,.v (.bool p.1.b),lmc p.1.m,.v (.bool p.2.a),lmc p.2.l,.v (.bool p.2.b),lmc p.2.m]
@[reducible] def aY(e:EntR):List Cell:=[.v (.int .i64 e.kind),.v (.string e.layer),.sl 8 (e.pts.map iY),.v (.bool e.rad.a),lmc e.rad.l,.v (.bool e.rad.b),lmc e.rad.m]
@[reducible] def aV(l:LayD):List Cell:=[.v (.string l.name),.v (.int .i64 l.kind),.v (.int .i64 l.depth)]
def vR(r:Rq):Bool:=fK r.a r.l r.b r.m
def qR(r:Rq):Rat:=((cO r.a (val r.l):Int):Rat)/((cO r.b (val r.m):Int):Rat)
def yA(r:Rq):Prop:=r.l.length<=6/\r.m.length<=6
theorem MV(q:Rat):((q.num:Int):Rat)/((q.den:Int):Rat)=q:=by
 have h:=Rat.num_divInt_den q
 rwa [Rat.divInt_eq_div]at h
theorem IG(q:Rat):qR (iR q)=q:=by
 unfold qR iR;simp only;rw[aB,vY,aB,vY,MV]
theorem aap(q:Rat):vR (iR q)=true:=FP q
theorem qK{r:Rq}(h:vR r=true):r=iR (qR r):=by
 obtain⟨q,h1,h2,h3,h4⟩:=JM h;obtain⟨a,l,b,m⟩:=r;simp only at h1 h2 h3 h4;subst h1 h2 h3 h4;exact(congrArg iR (IG q)).symm
theorem wO{q:Rat}(h:yA (iR q)):rz q<=12:=by
 obtain⟨h1,h2⟩:=h;have h1':(lim q.num.natAbs).length<=6:=h1;have h2':(lim (q.den:Int).natAbs).length<=6:=h2;unfold rz sz;omega
@[reducible] def zo:Rat:=((1:Int):Rat) / ((1000:Int):Rat)
def PS(a:Rat):Option Nat:=(List.range 31).find? λn=>decide (10^n%a.den=0)
def xE(q:Rat):Bool:=decide (¬((10000000:Int):Rat)<q)&&(decide (¬q < -((10000000:Int):Rat))&&(PS (q*zo)).isSome)
def eH(r:Rq):Bool:=vR r&&xE (qR r)
theorem wF(q:Rat):eH (iR q)=xE q:=by unfold eH;rw[aap,IG];rfl
def iC(e:EntR):Bool:=decide (e.kind=1/\e.pts.length=2\/e.kind=2/\e.pts.length=3\/e.kind=3/\e.pts.length=1)&&(e.pts.all (λp=>eH p.1&&eH p.2)&&(decide (¬e.kind=3) ||(eH e.rad&&decide (0<qR e.rad))))
def kE(e:EntR):Prop:=(∀p∈e.pts,yA p.1/\yA p.2)/\yA e.rad/\e.pts.length<=5/\e.layer.size<=60
def Un(c:Nat):Bool:=decide (97<=c/\c<=122)||decide (65<=c/\c<=90)
def YQ(c:Nat):Bool:=decide (48<=c/\c<=57)
def J7(c:Nat):Bool:=Un c ||(YQ c ||(decide (c=95)||decide (c=45)))
def ZW(s:ByteArray):Nat:=((kS s).takeWhile J7).length
def zV(s:ByteArray):Bool:=decide (0<s.size)&&(decide (s.size<=24)&&(Un ((kS s).getD 0 0)&&decide (ZW s=s.size)))
theorem Uk(p:Nat->Bool):∀(l:List Nat) (x:Nat),x<=l.length->(∀j<x,p (l.getD j 0)=true)->(x<l.length->p (l.getD x 0)=false)->(l.takeWhile p).length=x
 |[],x,h,_,_=>by simp at h;subst h;rfl
 |c::r,0,_,_,h2=>by
  have:=h2 η;simp only[List.getD_cons_zero]at this;simp[List.takeWhile_cons,this]
 |c::r,x+1,h,h1,h2=>by
  have h3:=h1 0 ω;simp only[List.getD_cons_zero]at h3;rw[List.takeWhile_cons,if_pos h3,bn];rw[Uk p r x (by simpa using h) (λj hj=>by simpa using h1 (j+1) ω) (λhx=>by simpa using h2 (by simpa using hx))]
theorem NY{s:ByteArray}{x:Nat}(h:x<=s.size)(h1:∀j<x,J7 ((kS s).getD j 0)=true)(h2:x<s.size->J7 ((kS s).getD x 0)=false):ZW s=x :=
 Uk J7 (kS s) x (by rw[ji];exact h) h1 (λhx=>h2 (by rwa [ji]at hx))
theorem KO{s:ByteArray}(h:(!(s.toList ==(ByteArray.mk #[]).toList))=true):0<s.size:=by
 rw[oU]at h;have h1:¬kS s=kS (ByteArray.mk #[]):=by simpa using h
 refine Decidable.byContradiction λhn=>h1 ?_
 have:(kS s).length=0:=by rw[ji];omega
 rw[BQ this];rfl
theorem P7{s:ByteArray}(h:(!(s.toList ==(ByteArray.mk #[]).toList))=false):s.size=0:=by
 rw[oU]at h;have h1:kS s=kS (ByteArray.mk #[]):=by simpa using h
 rw[<-ji,h1];rfl
theorem U9{s:ByteArray}(h:s.size=0\/¬s.size<=24\/Un ((kS s).getD 0 0)=false):zV s=false:=by
 unfold zV;rcases h with h|h|h
 .rw[h];rfl
 .rw[decide_eq_false h];simp
 .rw[h];simp
theorem Xz{s:ByteArray}(h1:0<s.size)(h2:s.size<=24)(h3:Un ((kS s).getD 0 0)=true):zV s=decide (ZW s=s.size):=by
 unfold zV;rw[decide_eq_true h1,decide_eq_true h2,h3];simp
def wR(l:LayD):Bool:=zV l.name&&decide (((l.kind=1\/l.kind=3)/\1<=l.depth/\l.depth<=10000000)\/((l.kind=2\/l.kind=4)/\l.depth=0))
def FZ{α:Type}(n:Nat)(f:Nat->Option α):Option α:=(List.range n).findSome? f
theorem oh{α:Type}{n:Nat}{f:Nat->Option α}(h:∀j<n,f j=none):FZ n f=none:=by
 unfold FZ;rw[List.findSome?_eq_none_iff];intro x hx;exact h x (by simpa using hx)
theorem qH{α:Type}{f:Nat->Option α}{x:Nat}{r:α}:∀{n:Nat},x<n->(∀j<x,f j=none)->f x=some r->FZ n f=some r
 |0,hx,_,_=>by omega
 |n+1,hx,h,hr=>by
  unfold FZ;rw[PE,List.findSome?_append];rcases yP x n with h1|h1
  .have:=qH (n:=n) h1 h hr;unfold FZ at this;rw[this];rfl
  .have:x=n:=ω
   subst this;have h2:=oh h;unfold FZ at h2;rw[h2,List.findSome?_cons,hr];rfl
theorem bU{p:Nat->Prop}{x:Nat}(h:∀j<x,p j)(h1:p x):∀j<x+1,p j:=λj hj=>by
 rcases yP j x with g|g
 .exact h j g
 .have:j=x:=ω
  subst this;exact h1
def L0:LayD:=⟨⟨#[]⟩,0,0⟩
def ni:EntR:=⟨0,⟨#[]⟩,[],⟨false,[],false,[]⟩⟩
def kU(ls:List LayD)(s:ByteArray):Int:=match FZ ls.length (λi=>if eqS (ls.getD i L0).name s=true then some i else none)with
 |some i=>((i:Nat):Int)
 |none=>-1
theorem vS{ls:List LayD}{s:ByteArray}{x:Nat}(hx:x<ls.length)(h:∀j<x,eqS (ls.getD j L0).name s=false)(h1:eqS (ls.getD x L0).name s=true):kU ls s=(x:Nat):=by
 unfold kU;rw[qH (x:=x) (r:=x) hx (λj hj=>by rw[h j hj];rfl) (by rw[h1];rfl)]
theorem L9{ls:List LayD}{s:ByteArray}(h:∀j<ls.length,eqS (ls.getD j L0).name s=false):kU ls s = -1:=by
 unfold kU;rw[oh (λj hj=>by rw[h j hj];rfl)]
theorem zK(ls:List LayD)(s:ByteArray):∀n≤ls.length,(∀j<n,eqS (ls.getD j L0).name s=false)\/∃x<n,(∀j<x,eqS (ls.getD j L0).name s=false)/\eqS (ls.getD x L0).name s=true
 |0,_ => .inl λj hj=>absurd hj (Bd _)
 |n+1,h=>by
  rcases zK ls s n ω with g|⟨x,g1,g2,g3⟩
  .cases e:eqS (ls.getD n L0).name s with
   |false=>exact .inl (bU g e)
   |true=>exact .inr ⟨n,ω,g,e⟩
  .exact .inr ⟨x,ω,g2,g3⟩
def lu(ls:List LayD)(i:Nat):Option Int:=if wR (ls.getD i L0)=false then some 1 else if kU ls (ls.getD i L0).name<i then some 5 else none
def pJ(ls:List LayD):Int:=if wR (ls.getD (ls.length-1) L0)=false then 1 else if kU ls (ls.getD (ls.length-1) L0).name<((ls.length-1:Nat):Int)then 5 else 0
theorem getD_take'{α:Type}{l:List α}{d:α}{i n:Nat}(h:i<n):(l.take n).getD i d=l.getD i d:=by
 simp[iI,h,wL]
theorem OO{ls:List LayD}{i:Nat}(h:i<ls.length):kU (ls.take (i+1)) (ls.getD i L0).name=kU ls (ls.getD i L0).name:=by
 have hl:(ls.take (i+1)).length=i+1:=by simp;omega
 have hself:eqS (ls.getD i L0).name (ls.getD i L0).name=true:=by unfold eqS;simp
 rcases zK ls (ls.getD i L0).name (i+1) ω with g|⟨x,g1,g2,g3⟩
 .have:=g i ω;rw[hself]at this;cases this
 .rw[vS (x:=x) ω g2 g3];exact vS ω (λj hj=>by rw[getD_take' ω];exact g2 j hj) (by rw[getD_take' g1];exact g3)
theorem Fq{ls:List LayD}{i:Nat}(h:i<ls.length):pJ (ls.take (i+1))=(lu ls i).getD 0:=by
 have hl:(ls.take (i+1)).length=i+1:=by simp;omega
 unfold pJ lu;rw[hl,show i+1-1=i by omega,getD_take' ω,OO h];split
 .rfl
 .split<;>rfl
def kN(ls:List LayD)(es:List EntR)(i:Nat):Option Int:=if kU ls (es.getD i ni).layer<0 then some 4 else if iC (es.getD i ni)=false then some 1 else none
def dZ(ls:List LayD)(es:List EntR):Int :=
 if 20<ls.length\/200<es.length then 3
 else match FZ ls.length (lu ls)with
  |some r=>r
  |none=>match FZ es.length (kN ls es)with
   |some r=>r
   |none=>0
theorem Gt{ls:List LayD}{es:List EntR}(h:20<ls.length\/200<es.length):dZ ls es=3:=by unfold dZ;rw[if_pos h]
theorem AB{ls:List LayD}{es:List EntR}{x:Nat}{r:Int}(h:¬(20<ls.length\/200<es.length))(hx:x<ls.length)(h1:∀j<x,lu ls j=none)(h2:lu ls x=some r):dZ ls es=r:=by
 unfold dZ;rw[if_neg h,qH hx h1 h2]
theorem zU{ls:List LayD}{es:List EntR}{x:Nat}{r:Int}(h:¬(20<ls.length\/200<es.length))(h0:∀j<ls.length,lu ls j=none)(hx:x<es.length)(h1:∀j<x,kN ls es j=none)(h2:kN ls es x=some r):dZ ls es=r:=by
 unfold dZ;rw[if_neg h,oh h0];simp only;rw[qH hx h1 h2]
theorem F7{ls:List LayD}{es:List EntR}(h:¬(20<ls.length\/200<es.length))(h0:∀j<ls.length,lu ls j=none)(h1:∀j<es.length,kN ls es j=none):dZ ls es=0:=by
 unfold dZ;rw[if_neg h,oh h0];simp only;rw[oh h1]
def okV(e:Ent):Prop:=(e.kind=1/\e.pts.length=2\/e.kind=2/\e.pts.length=3\/e.kind=3/\e.pts.length=1/\∃q:Rat,0<q/\rz q<=12/\e.rad=iR q)/\Sl e
@[reducible] def bW(e:Ent):EntR:=⟨e.kind,e.layer,e.pts.map λp=>(iR p.1,iR p.2),e.rad⟩
theorem OZ(e:Ent):aY (bW e)=aK e:=by
 unfold aY bW aK;simp only[List.map_map];rfl
theorem RI{e:EntR}(hs:kE e)(h:iC e=true):∃x:Ent,e=bW x/\okV x:=by
 obtain⟨kd,ly,pts,rd⟩:=e;obtain⟨s1,s2,s3,s4⟩:=hs;unfold iC at h;simp only[bY,decide_eq_true_eq,jo]at h;obtain⟨h1,h2,h3⟩:=h;simp only at s1 s2 s3 s4 h1 h2 h3
 have hp:∀p∈pts,p=(iR (qR p.1),iR (qR p.2)):=λp hp=>by
  obtain⟨a1,a2⟩:=h2 p hp;unfold eH at a1 a2;rw[bY]at a1 a2;exact Prod.ext (qK a1.1) (qK a2.1)
 have he:(pts.map λp=>(qR p.1,qR p.2)).map (λp:P2=>(iR p.1,iR p.2))=pts:=by
  rw[List.map_map];exact(List.map_congr_left (λp hp'=>(hp p hp').symm)).trans (List.map_id pts)
 refine⟨⟨kd,ly,pts.map λp=>(qR p.1,qR p.2),rd⟩, ?_, ?_, ?_, ?_, ?_⟩
 .unfold bW;simp only;rw[he]
 .simp only[aG];rcases h1 with g|g|g
  .exact .inl g
  .exact .inr (.inl g)
  .refine .inr (.inr ⟨g.1,g.2,qR rd, ?_⟩);rcases Bool.or_eq_true_iff.1 h3 with f|f
   .rw[decide_eq_true_eq]at f;exact absurd g.1 f
   .rw[bY,decide_eq_true_eq]at f;have f1:=f.1;unfold eH at f1;rw[bY]at f1;have e1:=qK f1.1;exact⟨f.2,wO (e1▸s2),e1⟩
 .intro p hp';obtain⟨u,hu,rfl⟩:=dR.1 hp';have e1:=hp u hu;have e2:=s1 u hu;exact⟨wO (by have:=e2.1;rw[e1]at this;exact this),wO (by have:=e2.2;rw[e1]at this;exact this)⟩
 .show ly.size<=1000;omega
 .simp only[aG];omega
theorem EK{α:Type}{n:Nat}{f:Nat->Option α}(h:FZ n f=none):∀j<n,f j=none:=by
 unfold FZ at h;rw[List.findSome?_eq_none_iff]at h;exactλj hj=>h j (by simpa using hj)
theorem Gf{α:Type}{n:Nat}{f:Nat->Option α}{r:α}(h:FZ n f=some r):∃j<n,f j=some r:=by
 unfold FZ at h;obtain⟨j,h1,h2⟩:=List.exists_of_findSome?_eq_some h;exact⟨j,by simpa using h1,h2⟩
theorem Uo{ls:List LayD}{es:List EntR}(h:dZ ls es=0):ls.length<=20/\es.length<=200/\(∀j<ls.length,lu ls j=none)/\∀j<es.length,kN ls es j=none:=by
 unfold dZ at h;split at h
 .cases h
 .rename_i g;split at h
  .rename_i r e;obtain⟨j,_,h2⟩:=Gf e;subst h;unfold lu at h2;split at h2
   .cases h2
   .split at h2<;>cases h2
  .rename_i e;split at h
   .rename_i r e';obtain⟨j,_,h2⟩:=Gf e';subst h;unfold kN at h2;split at h2
    .cases h2
    .split at h2<;>cases h2
   .rename_i e';exact⟨ω,ω,EK e,EK e'⟩
theorem OA{ls:List LayD}{es:List EntR}(hs:∀e∈es,kE e)(h:dZ ls es=0):∃xs:List Ent,es=xs.map bW/\∀x∈xs,okV x:=by
 have h4:=(Uo h).2.2.2
 have key:∀e∈es,∃x:Ent,e=bW x/\okV x:=λe he=>by
  obtain⟨j,hj,rfl⟩:=BP he;refine RI (hs _ he) ?_;have h5:=h4 j hj;unfold kN at h5;have e1:es.getD j ni=es[j]:=by simp[iI,hj]
  rw[e1]at h5;split at h5
  .cases h5
  .split at h5
   .cases h5
   .rename_i g;simpa using g
 clear h h4 hs;induction es with
 |nil=>exact⟨[],rfl,λx hx=>by simp at hx⟩
 |cons e r ih =>
  obtain⟨x,h1,h2⟩:=key e η;obtain⟨xs,h3,h4⟩:=ih (λe he=>key e (by simp[he]));refine⟨x::xs,by rw[bK,<-h1,<-h3],λy hy=>?_⟩;rcases pV.1 hy with rfl|hy
  .exact h2
  .exact h4 y hy
theorem V3{sq:Rat}{es:List Ent}{e:Ent}(h:e∈(bT sq 0 [] es).es):∀v∈aA e,v∈spotsAt (bT sq 0 [] es).sp e.layer:=by
 have hj:=rX sq 0 [] es;obtain⟨j,hj1,rfl⟩:=BP h;have hl:=hj.len;obtain⟨ws,h1,h2,h3⟩:=hj.ent j (es[j]' ω) _ (fM _) (fM hj1);rw[h2];have h4:=l9 h1;rw[h4.1,h4.2.1];exact h3
theorem zip_fst{l:List Ent}{x:Ent×Nat}(h:x∈l.zipIdx):x.1∈l:=by
 have:=List.mem_map_of_mem (f:=(·.1)) h;simpa using this
theorem Eh{l:List (Ent×Nat)}{x:Ent×Nat}(h:x∈x9 l):x∈l:=by
 unfold x9 at h;obtain⟨y,h1,rfl⟩:=dR.1 h;have h2:=(yg.1 h1).1;exact(List.of_mem_zip h2).1
theorem VQ(sq:Rat)(es:List Ent):∀e∈(aO sq es).es,e∈(bT sq 0 [] es).es/\dJ e=0:=by
 intro e he;unfold aO at he;simp only at he;obtain⟨x,hx,rfl⟩:=dR.1 he;have h1:=Eh hx;unfold mV at h1;obtain⟨h2,h3⟩:=yg.1 h1;exact⟨zip_fst h2,by simpa using h3⟩
theorem PY{sq:Rat}{es:List Ent}{q:P2->Prop}(hq:∀e∈es,∀p∈e.pts,q p){e':Ent}(h:e'∈(aO sq es).es):∃e∈es,e'.layer=e.layer/\e'.kind=e.kind/\e'.pts.length=e.pts.length/\e'.rad=e.rad/\∀p∈e'.pts,q p:=by
 have h1:=(VQ sq es e' h).1;have hj:=rX sq 0 [] es;have h2:=(zk (sq:=sq) hq es.length (gW _)).2.1;rw[kP]at h2;obtain⟨j,hj1,hj2⟩:=BP h1;have hl:=hj.len;obtain⟨ws,g1,g2,g3⟩:=hj.ent j (es[j]' ω) e' (fM _) (by rw[fM hj1,hj2]);obtain⟨m1,m2,m3,m4,m5⟩:=l9 g1;refine⟨es[j]' ω,wW _, ?_, ?_, ?_, ?_,h2 e' h1⟩<;>rw[g2]<;>assumption
open Go.Lib
@[reducible] def p10(n:Nat):Int:=((10 ^ n:Nat):Int)
theorem yj(n:Nat):p10 n*10=p10 (n+1):=by unfold p10;rw[rG];omega
theorem xR{n:Nat}(h:n<=31):sz (p10 n)<=4:=by
 show(lim (p10 n).natAbs).length<=4;refine gq ?_;have h1:10^n<=10^31:=BZ ψ h;show(p10 n).natAbs<_;unfold p10;rw[vZ];have h2:(10:Nat)^31<1000000000^4:=by decide +kernel
 omega
theorem Ap{n:Nat}(h:n<=31):rz ((p10 n:Int):Rat)<=8:=by
 have h1:=ig (p10 n);have h2:=xR h;omega
theorem Rw(n:Nat):((p10 n:Int):Rat)*((10:Int):Rat)=((p10 (n+1):Int):Rat):=by
 rw[<-BN,yj]
theorem den_mul(a:Rat)(k:Nat):(a*(((k:Nat):Int):Rat)).den=1↔k%a.den=0:=by
 have h0:=iO a;have hne:=iK a;constructor
 .intro h;have h1:=MV (a*(((k:Nat):Int):Rat));rw[h]at h1
  have h2:(((a*(((k:Nat):Int):Rat)).num:Int):Rat)=a*(((k:Nat):Int):Rat):=by
   generalize(((a*(((k:Nat):Int):Rat)).num:Int):Rat)=m at h1 ⊢;generalize a*(((k:Nat):Int):Rat)=r at h1 ⊢;have:(((1:Nat):Int):Rat)=1:=rfl;rw[this]at h1
   grind
  generalize(a*(((k:Nat):Int):Rat)).num=m at h2
  have h3:((m*(a.den:Int):Int):Rat)=((a.num*(k:Int):Int):Rat):=by
   rw[BN,BN,h2,h0];generalize(((k:Nat):Int):Rat)=K;generalize(((a.den:Nat):Int):Rat)=D
   grind
  have h4:=Rat.intCast_inj.1 h3
  have h5:a.den ∣ a.num.natAbs*k:=by
   have:=congrArg Int.natAbs h4;rw[Int.natAbs_mul,Int.natAbs_mul,vZ,vZ]at this;exact⟨m.natAbs,by rw[<-this,yB]⟩
  have h6:a.den ∣ k:=(Nat.Coprime.symm a.reduced).dvd_of_dvd_mul_left h5;exact Nat.mod_eq_zero_of_dvd h6
 .intro h;obtain⟨c,hc⟩:=Nat.dvd_of_mod_eq_zero h
  have:a*(((k:Nat):Int):Rat)=((a.num*(c:Int):Int):Rat):=by
   rw[BN,h0,hc,J4,BN];generalize(((c:Nat):Int):Rat)=K;generalize(((a.den:Nat):Int):Rat)=D
   grind
  rw[this];exact Rat.den_intCast _
@[reducible] def Uw(a:Rat)(n:Nat):Rat:=a*(((p10 n:Int):Rat) / ((1:Int):Rat))
theorem UY(a:Rat)(n:Nat):Uw a n=a*((p10 n:Int):Rat):=by
 unfold Uw;have:((1:Int):Rat)=1:=rfl;rw[this];generalize((p10 n:Int):Rat)=K
 grind
def kY(k:Nat):ByteArray:=⟨(List.replicate k (48:UInt8)).toArray⟩
theorem jH(k:Nat):(kY k).size=k:=by
 show(List.replicate k (48:UInt8)).toArray.size=k;simp
theorem Jo(k:Nat):(⟨#[48]⟩:ByteArray)++kY k=kY (k+1):=by
 unfold kY;rw[ByteArray.ext_iff,ByteArray.data_append];simp[List.replicate_succ]
def kV(n:Int):ByteArray:=if n<0 then(jl n).extract 1 (jl n).size else jl n
def BO(n:Int):ByteArray:=if n<0 then⟨#[45]⟩else⟨#[]⟩
def uV(n:Int)(k:Nat):ByteArray:=kY (k+1-(kV n).size)++kV n
def Jz(n:Int)(k:Nat):ByteArray:=if k=0 then BO n++kV n else BO n++(uV n k).extract 0 ((uV n k).size-k)++⟨#[46]⟩++(uV n k).extract ((uV n k).size-k) (uV n k).size
def exS(a:Rat):ByteArray:=match PS a with
 |some n=>Jz (Uw a n).num n
 |none=>⟨#[]⟩
theorem LH{a:Rat}{x:Nat}(hx:x<=30)(h:∀j<x,¬10^j%a.den=0)(h1:10^x%a.den=0):PS a=some x:=by
 unfold PS;rw[List.find?_range_eq_some];refine⟨by simpa using h1,κ,λj hj=>by simpa using h j hj⟩
theorem Ua{a:Rat}(h:∀j<31,¬10^j%a.den=0):PS a=none:=by
 unfold PS;rw[List.find?_range_eq_none];intro j hj;simpa using h j hj
theorem yY(n:Int):1<=(jl n).size:=by
 rw[sV];have:=nDigits_pos n.natAbs;split<;>omega
theorem Lh{n:Nat}(h:n<=31):rz (((p10 n:Int):Rat)/((1:Int):Rat))<=8:=by
 have e:((p10 n:Int):Rat)/((1:Int):Rat)=((p10 n:Int):Rat):=by
  have:((1:Int):Rat)=1:=rfl;rw[this];generalize((p10 n:Int):Rat)=K
  grind
 rw[e];exact Ap h
theorem Bj{n:Int}(h:sz n<=50):(kV n).size<=460:=by
 have:=RJ h ψ;unfold kV;split
 .rw[PG];omega
 .omega
theorem Fp{n:Int}{k:Nat}(h:sz n<=50)(hk:k<=30):(uV n k).size<=500/\k+1<=(uV n k).size:=by
 have:=Bj h;unfold uV;rw[Py,jH];omega
theorem Ns{n:Int}{k:Nat}(h:sz n<=50)(hk:k<=30):(Jz n k).size<=1000:=by
 have h1:=Fp h hk;have h2:=Bj h;have h3:(BO n).size<=1:=by unfold BO;split<;>decide
 have h4:(⟨#[46]⟩:ByteArray).size=1:=rfl;unfold Jz;split
 .rw[Py];omega
 .rw[Py,Py,Py,PG,PG,h4];omega
theorem YZ{n:Int}{k:Nat}(h:(kV n).size<=k):kY ((k:Int)+1-((kV n).size:Int)).toNat++kV n=uV n k:=by
 have:((k:Int)+1-((kV n).size:Int)).toNat=k+1-(kV n).size:=ω
 rw[this];rfl
theorem Uz{n:Int}{k:Nat}(h:¬(kV n).size<=k):uV n k=kV n:=by
 unfold uV;rw[show k+1-(kV n).size=0 by omega,ByteArray.ext_iff,ByteArray.data_append];simp[kY]
theorem TL{n:Int}{k:Nat}(h:k=0):Jz n k=BO n++kV n:=by unfold Jz;rw[if_pos h]
theorem Nl{n:Int}{k:Nat}(h:¬k=0):Jz n k=BO n++(uV n k).extract 0 ((uV n k).size-k)++⟨#[46]⟩++(uV n k).extract ((uV n k).size-k) (uV n k).size:=by unfold Jz;rw[if_neg h]
theorem E8{a:Rat}{x:Nat}(h:rz a<=20)(hx:x<=30):sz (Uw a x).num<=50:=by
 have z1:=fH (Uw a x);have z2:=gK a (((p10 x:Int):Rat)/((1:Int):Rat));have z3:=Lh (n:=x) ω;unfold Uw at *;omega
theorem UM{n:Int}(h:n<0):(jl n).extract (Int.toNat 1) (jl n).size=kV n:=by unfold kV;rw[if_pos h];rfl
theorem TQ{n:Int}(h:¬n<0):jl n=kV n:=by unfold kV;rw[if_neg h]
end Go.Sw
namespace Go.Sw
open Go
@[reducible] def pE(u v:P2):Bool:=decide (u.1=v.1) && decide (u.2=v.2)
theorem jr{u v:P2}:pE u v=decide (u=v):=Gi
theorem SK{p q:Rat}:iR p=iR q↔p=q:=⟨λh=>by have:=congrArg qR h;rwa [IG,IG]at this,λh=>h▸rfl⟩
theorem CJ{l1 l2:ByteArray}{a b c d:P2}{r1 r2:Rq}:aZ ⟨1,l1,[a,b],r1⟩ ⟨1,l2,[c,d],r2⟩=((l1.toList == l2.toList)&&((pE a c&&pE b d) ||(pE a d&&pE b c))):=by
 rw[jr,jr,jr,jr];unfold aZ eqS qy;simp[Bool.decide_or,Bool.decide_and]
theorem LY{l1 l2:ByteArray}{a m b c n d:P2}{r1 r2:Rq}:aZ ⟨2,l1,[a,m,b],r1⟩ ⟨2,l2,[c,n,d],r2⟩=((l1.toList == l2.toList)&&(((pE a c&&pE b d) ||(pE a d&&pE b c))&&(if(decide (fZ a m b=0)||decide (fZ c n d=0))=true then decide (fZ a m b=0)&&(decide (fZ c n d=0)&&pE m n)else uD c n d m&&uD a m b n))):=by
 rw[jr,jr,jr,jr,jr];unfold aZ eqS qy;simp[Bool.decide_or,Bool.decide_and,WC,Bool.and_assoc]
theorem CS{l1 l2:ByteArray}{a c:P2}{q1 q2:Rat}:aZ ⟨3,l1,[a],iR q1⟩ ⟨3,l2,[c],iR q2⟩=((l1.toList == l2.toList)&&(pE a c&&decide (q1=q2))):=by
 rw[jr];have:decide (iR q1=iR q2)=decide (q1=q2):=decide_eq_decide.2 SK;rw[<-this];show((l1.toList == l2.toList)&&decide ((3:Int)=3)&&(decide (a=c)&&decide (iR q1=iR q2)))=_;rw[decide_eq_true (show(3:Int)=3 from rfl),Bool.and_true]
theorem gY{e f:Ent}(h:¬e.kind=f.kind):aZ e f=false:=by
 unfold aZ;simp[h]
theorem jI{e:Ent}(h:okV e):(∃l a b r,e=⟨1,l,[a,b],r⟩/\aF a/\aF b/\l.size<=1000)\/(∃l a m b r,e=⟨2,l,[a,m,b],r⟩/\aF a/\aF m/\aF b/\l.size<=1000)\/(∃l a q,e=⟨3,l,[a],iR q⟩/\aF a/\0<q/\rz q<=12/\l.size<=1000):=by
 obtain⟨kd,ly,pts,rd⟩:=e;obtain⟨h1,h2,h3,h4⟩:=h;simp only at h1 h2 h3 h4;rcases h1 with⟨rfl,g⟩|⟨rfl,g⟩|⟨rfl,g,q,q1,q2,rfl⟩
 .match pts,g,h2 with
  |[a,b],_,h2=>exact .inl ⟨ly,a,b,rd,rfl,h2 a η,h2 b η,h3⟩
 .match pts,g,h2 with
  |[a,m,b],_,h2=>exact .inr (.inl ⟨ly,a,m,b,rd,rfl,h2 a η,h2 m η,h2 b η,h3⟩)
 .match pts,g,h2 with
  |[a],_,h2=>exact .inr (.inr ⟨ly,a,q,rfl,h2 a η,q1,q2,h3⟩)
theorem JK{e:Ent}{l:List P2}(h:okV e)(hl:l.length=(aA e).length)(hp:∀p∈l,aF p):okV (dQ e l):=by
 obtain⟨m1,m2,m3,m4,m5⟩:=l9 hl;obtain⟨h1,h2,h3,h4⟩:=h;refine⟨?_,xH h2 hp,by rw[m2];exact h3,by rw[m4];exact h4⟩;rw[m3,m4,m5];exact h1
theorem Nq{sq:Rat}{es:List Ent}(h:∀e∈es,okV e):∀e∈(bT sq 0 [] es).es,okV e:=by
 intro e he;have hj:=rX sq 0 [] es;have h2:=(zk (q:=aF) (sq:=sq) (λe he=>(h e he).2.1) es.length (gW _)).1;rw[kP]at h2;obtain⟨j,hj1,rfl⟩:=BP he;have hl:=hj.len;obtain⟨ws,g1,g2,g3⟩:=hj.ent j (es[j]' ω) _ (fM _) (fM hj1);rw[g2];refine JK (h _ (wW _)) g1 λp hp=>?_
 obtain⟨q,q1,rfl⟩:=nT (g3 p hp);exact h2 q q1
theorem BI{l:List (Ent×Nat)}(h:∀x∈l,okV x.1){x:Nat}(hx:x<l.length):okV (l.getD x N0).1:=by
 have:l.getD x N0=l[x]:=by simp[iI,hx]
 rw[this];exact h _ (wW hx)
theorem BK{l:List (Ent×Nat)}{x:Nat}(h:x<l.length):l.take (x+1)=l.take x++[l.getD x N0]:=by
 rw[J6,fM h];simp[iI,h]
def BU(l:List (Ent×Nat))(x:Nat):List (Ent×Nat):=mV (l.take x)
def BX(l:List (Ent×Nat))(x:Nat):List Chn:=mO (l.take x)
theorem Ac(l:List (Ent×Nat)):BU l l.length=mV l:=by unfold BU;rw[xY]
theorem Ah(l:List (Ent×Nat)):BX l l.length=mO l:=by unfold BX;rw[xY]
theorem NU{l:List (Ent×Nat)}{x:Nat}(h:x<l.length)(hf:dJ (l.getD x N0).1=0):BU l (x+1)=BU l x++[l.getD x N0]/\BX l (x+1)=BX l x:=by
 unfold BU BX mV mO;rw[BK h,JZ,JZ];simp only[List.filter_cons,List.filter_nil,hf];simp
theorem IW{l:List (Ent×Nat)}{x k:Nat}(h:x<l.length)(hf:dJ (l.getD x N0).1=k+1):BU l (x+1)=BU l x/\BX l (x+1)=BX l x++[⟨k+1,(l.getD x N0).2,0,none,none⟩]:=by
 unfold BU BX mV mO;rw[BK h,JZ,JZ];generalize l.getD x N0=y at *;simp only[List.filter_cons,List.filter_nil,hf];simp[hf]
theorem wH(l:List (Ent×Nat))(x:Nat):(BU l x).length<=l.length/\(BX l x).length<=l.length:=by
 unfold BU BX mV mO;have h1:=WZ (λx:Ent×Nat=>dJ x.1 == 0) (l.take x);have h2:=WZ (λx:Ent×Nat=>!(dJ x.1 == 0)) (l.take x);rw[kM]at h1 h2;rw[aG];omega
theorem vM{e:Ent}{a b:P2}(hE:aA e=[a,b])(h:pE a b=true):dJ e=2:=by
 rw[jr,decide_eq_true_eq]at h;unfold dJ;rw[hE];simp[h]
theorem lY{e:Ent}{a b:P2}(hE:aA e=[a,b])(h:pE a b=false):dJ e=if e.kind=2/\uT e=true then 5 else 0:=by
 rw[jr,decide_eq_false_iff_not]at h;unfold dJ;rw[hE];simp[h]
theorem Aq{e:Ent}(hE:aA e=[]):dJ e=if e.kind=2/\uT e=true then 5 else 0:=by
 unfold dJ;rw[hE]
def yM(l:List (Ent×Nat))(x:Nat):List (Ent×Nat):=(((l.zip (bJ (l.map (·.1)))).take x).filter λp=>!p.2).map (·.1)
def Ku(l:List (Ent×Nat))(x:Nat):List Chn:=(((l.zip (bJ (l.map (·.1)))).take x).filter λp=>p.2).map λx=>⟨3,x.1.2,0,none,none⟩
theorem ru(l:List (Ent×Nat)):(l.zip (bJ (l.map (·.1)))).length=l.length:=by rw[List.length_zip,fF,aG,Nat.min_self]
theorem vJ(l:List (Ent×Nat)):yM l l.length=x9 l:=by
 unfold yM x9;rw[Ko (by rw[ru];exact gW _)]
theorem QZ(l:List (Ent×Nat)):Ku l l.length=Xv l:=by
 unfold Ku Xv;rw[Ko (by rw[ru];exact gW _)]
theorem zx{l:List (Ent×Nat)}{x:Nat}(h:x<l.length):(l.zip (bJ (l.map (·.1)))).take (x+1)=(l.zip (bJ (l.map (·.1)))).take x++[(l.getD x N0,(bJ (l.map (·.1))).getD x false)]:=by
 have h1:x<(l.zip (bJ (l.map (·.1)))).length:=by rw[ru];exact h
 have h2:x<(bJ (l.map (·.1))).length:=by rw[fF,aG];exact h
 rw[J6,fM h1,List.getElem_zip];simp[iI,h,h2]
theorem Zp{l:List (Ent×Nat)}{x:Nat}(h:x<l.length)(hb:(bJ (l.map (·.1))).getD x false=true):yM l (x+1)=yM l x/\Ku l (x+1)=Ku l x++[⟨3,(l.getD x N0).2,0,none,none⟩]:=by
 unfold yM Ku;rw[zx h,hb,JZ,JZ];simp
theorem ZP{l:List (Ent×Nat)}{x:Nat}(h:x<l.length)(hb:(bJ (l.map (·.1))).getD x false=false):yM l (x+1)=yM l x++[l.getD x N0]/\Ku l (x+1)=Ku l x:=by
 unfold yM Ku;rw[zx h,hb,JZ,JZ];simp
theorem vV(l:List (Ent×Nat))(x:Nat):(yM l x).length<=l.length/\(Ku l x).length<=l.length:=by
 unfold yM Ku;have h1:=WZ (λp:(Ent×Nat)×Bool=>!p.2) ((l.zip (bJ (l.map (·.1)))).take x);have h2:=WZ (λp:(Ent×Nat)×Bool=>p.2) ((l.zip (bJ (l.map (·.1)))).take x);rw[kM,ru]at h1 h2;rw[aG,aG];omega
theorem left_ok{q:Ent->Prop}{l:List (Ent×Nat)}(h:∀x∈l,q x.1):∀x∈x9 l,q x.1:=λx hx=>h x (Eh hx)
theorem QH{q:Ent->Prop}{l:List (Ent×Nat)}(h:∀x∈l,q x.1):∀x∈mV l,q x.1:=λx hx=>h x (yg.1 hx).1
theorem adG{l:List (Ent×Nat)}{x:Nat}(h:x<l.length):(l.take (x+1)).map (·.1)=(l.take x).map (·.1)++[(l.getD x N0).1]:=by rw[BK h,bH];rfl
theorem rpL{l:List (Ent×Nat)}{x:Nat}(h:x<=l.length):(uG (l.map (·.1)) x).length=l.length:=by
 rw[Td (by rw[aG];exact h),aG]
theorem CV{l:List (Ent×Nat)}{x:Nat}(h:x<l.length):(l.map (·.1)).getD x E0=(l.getD x N0).1:=by
 simp[iI,h]
theorem Xf{l:List (Ent×Nat)}{x k:Nat}(hx:x<l.length)(hk:k<x)(h0:pz (l.map (·.1)) x k=false)(h:(!(uG (l.map (·.1)) x).getD k false)=false\/aZ (l.getD x N0).1 (l.getD k N0).1=false):pz (l.map (·.1)) x (k+1)=false:=by
 rw[zJ (by rw[aG];exact hx) hk,h0,CV hx,CV ω];rcases h with h|h<;>rw[h]<;>simp
theorem Xl{l:List (Ent×Nat)}{x k:Nat}(hx:x<l.length)(hk:k<x)(h1:(!(uG (l.map (·.1)) x).getD k false)=true)(h2:aZ (l.getD x N0).1 (l.getD k N0).1=true):uG (l.map (·.1)) (x+1)=(uG (l.map (·.1)) x).set x true:=by
 refine aaw (by rw[aG];exact hx) hk ?_;rw[zJ (by rw[aG];exact hx) hk,CV hx,CV ω,h1,h2];simp
theorem aag{l:List (Ent×Nat)}{x:Nat}(hx:x<l.length)(h:pz (l.map (·.1)) x x=false):uG (l.map (·.1)) (x+1)=uG (l.map (·.1)) x:=aaG (by rw[aG];exact hx) h
theorem Qa(l:List (Ent×Nat)):uG (l.map (·.1)) l.length=bJ (l.map (·.1)):=by
 have:=SY (l.map (·.1))
 rwa [aG]at this
def mQ:Rq×Rq:=(⟨false,[],false,[]⟩,⟨false,[],false,[]⟩)
theorem kG{e:EntR}(h:¬(e.kind=1/\e.pts.length=2\/e.kind=2/\e.pts.length=3\/e.kind=3/\e.pts.length=1)):iC e=false:=by
 unfold iC;rw[decide_eq_false h,PI]
theorem oI{e:EntR}{x:Nat}(hx:x<e.pts.length)(h:(eH (e.pts.getD x mQ).1&&eH (e.pts.getD x mQ).2)=false):iC e=false:=by
 have:(e.pts.all λp=>eH p.1&&eH p.2)=false:=by
  rw[List.all_eq_false];refine⟨e.pts.getD x mQ, ?_,by rw[h];decide⟩;have:e.pts.getD x mQ=e.pts[x]:=by simp[iI,hx]
  rw[this];exact wW hx
 unfold iC;rw[this];simp
theorem kX{e:EntR}(h:e.kind=1/\e.pts.length=2\/e.kind=2/\e.pts.length=3\/e.kind=3/\e.pts.length=1)(h1:∀j<e.pts.length,(eH (e.pts.getD j mQ).1&&eH (e.pts.getD j mQ).2)=true):iC e=(decide (¬e.kind=3) ||(eH e.rad&&decide (0<qR e.rad))):=by
 have:(e.pts.all λp=>eH p.1&&eH p.2)=true:=by
  rw[jo];intro p hp;obtain⟨j,hj,rfl⟩:=BP hp;have h2:=h1 j hj;have e1:e.pts.getD j mQ=e.pts[j]:=by simp[iI,hj]
  rwa [e1]at h2
 unfold iC;rw[this,decide_eq_true h];simp
theorem Ag{r:Rq}(h:eH r=true):vR r=true:=by
 unfold eH at h;rw[bY]at h;exact h.1
theorem jD{e:EntR}(h:kE e){x:Nat}(hx:x<e.pts.length):yA (e.pts.getD x mQ).1/\yA (e.pts.getD x mQ).2:=by
 have:e.pts.getD x mQ=e.pts[x]:=by simp[iI,hx]
 rw[this];exact h.1 _ (wW hx)
def Ur(ls:List LayD)(e:EntR):Int:=if kU ls e.layer<0 then 4 else if iC e=false then 1 else 0
theorem OL{ls:List LayD}{es:List EntR}{x:Nat}:(Ur ls (es.getD x ni)=0->kN ls es x=none)/\(¬Ur ls (es.getD x ni)=0->kN ls es x=some (Ur ls (es.getD x ni))):=by
 unfold Ur kN;split
 .exact⟨λh=>(by cases h),λ_=>rfl⟩
 .split
  .exact⟨λh=>(by cases h),λ_=>rfl⟩
  .exact⟨λ_=>rfl,λh=>absurd rfl h⟩
theorem NP{ls:List LayD}{x:Nat}(hx:x<ls.length):(pJ (ls.take (x+1))=0->lu ls x=none)/\(¬pJ (ls.take (x+1))=0->lu ls x=some (pJ (ls.take (x+1)))):=by
 rw[Fq hx];unfold lu;split
 .exact⟨λh=>(by cases h),λ_=>rfl⟩
 .split
  .exact⟨λh=>(by cases h),λ_=>rfl⟩
  .exact⟨λ_=>rfl,λh=>absurd rfl h⟩
theorem LM{es:List EntR}(h:∀e∈es,kE e){x:Nat}(hx:x<es.length):kE (es.getD x ni):=by
 have:es.getD x ni=es[x]:=by simp[iI,hx]
 rw[this];exact h _ (wW hx)
theorem TK{ls:List LayD}{n:Nat}(h:∀l∈ls,l.name.size<=n)(x:Nat):(ls.getD x L0).name.size<=n:=by
 by_cases hx:x<ls.length
 .have:ls.getD x L0=ls[x]:=by simp[iI,hx]
  rw[this];exact h _ (wW hx)
 .have:ls.getD x L0=L0:=by simp[iI,Nat.le_of_not_lt hx]
  rw[this];exact jd _
theorem BD:rz zo<=8:=aP (abU 1 1000 ψ ⟨ψ,ψ⟩ ⟨ψ,ψ⟩) ψ
theorem UN{a:Rat}(h:rz a<=12):rz (a*zo)<=20:=by
 have h1:=gK a zo;have h2:=BD;omega
theorem OU:rz ((10000000:Int):Rat)<=4:=F8 _ ψ ψ
open Go.Lib Go.RowKit
end Go.Sw
namespace Go.Sw
open Go Go.Lib
theorem Gy(n:Int):((((kS (jl n)).getD (Int.toNat 0) 0:Nat):Int)=45)↔n<0:=by
 rw[rU]
 by_cases h:n<0
 .rw[if_pos h];simp[h]
 .rw[if_neg h];simp only[h,iff_false,mX];intro e;have e2:(BR n.natAbs).getD 0 0=45:=by have e3:(((BR n.natAbs).getD 0 0:Nat):Int)=45:=e;omega
  refine Wu n.natAbs ?_;cases hd:BR n.natAbs with
  |nil=>rw[hd]at e2;simp at e2
  |cons x r=>rw[hd]at e2;simp at e2;subst e2;rfl
theorem Px{n:Int}(h:n<0):decide ((((kS (jl n)).getD (Int.toNat 0) 0:Nat):Int)=45)=true:=decide_eq_true ((Gy n).2 h)
theorem KA{n:Int}(h:¬n<0):decide ((((kS (jl n)).getD (Int.toNat 0) 0:Nat):Int)=45)=false:=decide_eq_false (λe=>h ((Gy n).1 e))
theorem Hg(n:Int):1<=(kV n).size:=by
 have h1:=nDigits_pos n.natAbs;have h2:=sV n;unfold kV
 by_cases h:n<0
 .rw[if_pos h]at h2 ⊢;rw[PG];omega
 .rw[if_neg h]at h2 ⊢;omega
theorem zp0(n:Int):kY 0++kV n=kV n:=by
 rw[ByteArray.ext_iff,ByteArray.data_append];simp[kY]
theorem zpS{n:Int}{j:Nat}:(⟨#[48]⟩:ByteArray)++(kY j++kV n)=kY (j+1)++kV n:=by
 rw[<-ByteArray.append_assoc,Jo]
theorem zpE{n:Int}{j k:Nat}(h:j<=k+1-(kV n).size)(h2:¬((kY j++kV n).size:Int)<=k):kY j++kV n=uV n k:=by
 rw[Py,jH]at h2;have:j=k+1-(kV n).size:=ω
 subst this;rfl
theorem acj{n:Int}(h:n<0):(jl n).extract (Int.toNat 1) (jl n).size=kY 0++kV n:=by rw[zp0];exact UM h
theorem adB{n:Int}(h:¬n<0):jl n=kY 0++kV n:=by rw[zp0];exact TQ h
theorem YS{n:Int}(h:n<0):(⟨#[45]⟩:ByteArray)=BO n:=by unfold BO;rw[if_pos h]
theorem Zh{n:Int}(h:¬n<0):(⟨#[]⟩:ByteArray)=BO n:=by unfold BO;rw[if_neg h]
theorem YV(n:Int):uV n 0=kV n:=by
 have:=Hg n;exact Uz ω
theorem XP(n:Int):(BO n).size<=1:=by unfold BO;split<;>decide
theorem acY{n:Int}{k:Nat}(h:(k:Int)=0):BO n++uV n k=Jz n k:=by
 have:k=0:=ω
 subst this;rw[YV,TL rfl]
theorem adw{n:Int}{k a b c:Nat}(h:¬(k:Int)=0)(ha:a=0)(hb:b=(uV n k).size-k)(hc:c=(uV n k).size):BO n++(uV n k).extract a b++⟨#[46]⟩++(uV n k).extract b c=Jz n k:=by
 subst ha hb hc;exact(Nl ω).symm
theorem dm1{a:Rat}{x:Nat}:((((a*((p10 x:Int):Rat)).den:Nat):Int)=1)↔10^x%a.den=0:=by
 have:=den_mul a (10^x);rw[<-this];show((((a*(((10^x:Nat):Int):Rat)).den:Nat):Int)=1)↔_;omega
theorem SI{a:Rat}{x:Nat}(hx:x<=30)(h:∀j<x,¬10^j%a.den=0)(h1:(((a*((p10 x:Int):Rat)).den:Nat):Int)=1):PS a=some x/\exS a=Jz (a*((p10 x:Int):Rat)).num x:=by
 have e:=LH hx h (dm1.1 h1);refine⟨e, ?_⟩;unfold exS;rw[e];show Jz (Uw a x).num x=_;rw[UY]
theorem Wj{a:Rat}(h:∀j<31,¬10^j%a.den=0):PS a=none/\exS a=⟨#[]⟩:=by
 have e:=Ua h;refine⟨e, ?_⟩;unfold exS;rw[e]
theorem OQ{a:Rat}{x:Nat}(h:rz a<=20)(hx:x<=30):sz (a*((p10 x:Int):Rat)).num<=50:=by
 rw[<-UY];exact E8 h hx
end Go.Sw
namespace Go.Proofs.YtmniihkenijjpaaGreatDoor
open Go Go.RowKit Go.Sw
set_option maxRecDepth 100000
set_option maxHeartbeats 16000000
instance abl(neg:Bool)(l:List Nat):DenI Tryz.prog 221 [Zr neg l] (l.length<=9223372036854775807) (.bool (eG neg l)):=⟨λhp=>by
 refine au Tryz.func221 rfl ?_
 all_goals first
  |((conv=>whnf);refine Sw.Loop.inv (α:=Nat) (λx=>[(1,.ptr 1 0),(2,.bool false),(7,.c (lmc l)),(8,.int .i64 (l.length:Nat)),(9,.int .i64 x)]) (λx=>[(1,.var [.v (.bool neg),lmc l])]) (λx=>x<=l.length/\∀j,j<x->l.getD j 0<1000000000) (λx=>l.length-x) 0 ?_ ?_ ?_ (λx hx=>?_))
 all_goals(repeat'((try(conv=>whnf));first
  |(with_reducible first|refine zad (λ_=>?_) (λ_=>?_)|refine zak ?_ ?_)|apply zaq))
 all_goals(try apply zar)
 all_goals first|(show SubE _ _;repeat'(first|exact trivial|refine And.intro ?_ ?_))|(show SubB _ _;repeat'(first|exact trivial|refine And.intro ?_ ?_))|skip
 all_goals(try rfl)
 all_goals(try simp only[aG,dh]at *)
 all_goals first
  |exact bE (NJ (x:=x) ω ξ)|((conv=>whnf);exact⟨x+1,⟨⟨rfl,rfl,rfl,rfl,aH ω,trivial⟩,⟨rfl,trivial⟩,⟨ω,λj hj=>by rcases Nat.lt_succ_iff_lt_or_eq.1 hj with h|h;exact hx.2 j h;subst h;omega⟩,by show l.length-(x+1)<l.length-x;omega⟩⟩)|omega|exact⟨ω,λj hj=>by omega⟩|rfl|(rw[aS ω ω];omega)|(have w:(IntKind.i64.wrap ((l.length:Int)-1)).toNat=l.length-1:=(by rw[aS ω ω];omega);rw[w];exact bE (Fv (yx λj hj=>hx.2 j ω) ω))|exact bE (FM ω)⟩
instance afO(n1:Bool)(l1:List Nat)(n2:Bool)(l2:List Nat):DenI Tryz.prog 178 [Rr n1 l1 n2 l2] (l1.length<=1000000000/\l2.length<=1000000000) (.bool (fK n1 l1 n2 l2)):=⟨λhp=>by
 rcases uz n1 l1 n2 l2 with h|⟨x,rfl,rfl,h⟩|⟨x,y,rfl,rfl,rfl,rfl⟩
 all_goals refine au Tryz.func178 rfl ?_
 all_goals(repeat'((try(conv=>whnf));first
  |apply zaf|refine zaa ?_ ?_|(with_reducible first|apply zab|apply zac|refine zad (λ_=>?_) (λ_=>?_))|refine zat (λ_=>?_) (λ_=>?_)|apply zaq))
 all_goals(try apply zar)
 all_goals(try simp only[aW]at *)
 all_goals first
  |(simp only[mG]at *;exfalso;simp_all;done)|(exfalso;simp_all;done)|exact bE (ab2 (x:=x) (y:=y) ω)|exact bE (aci (x:=x) (y:=y) ω)|exact bE (by unfold fK;simp_all)|exact hp|(first|exact aP hp.1 ψ|exact aP hp.2 ψ)⟩
end Go.Proofs.YtmniihkenijjpaaGreatDoor
namespace Go.Sw
open Go
def jZ(tol:Rat)(es:List Ent):List (Ent×Nat):=(bT (tol*tol) 0 [] es).es.zipIdx
def jK(tol:Rat)(es:List Ent):List (Ent×Nat):=mV (jZ tol es)
def jL(tol:Rat)(es:List Ent):List (Ent×Nat):=x9 (jK tol es)
def pU(tol:Rat)(es:List Ent)(x:Nat):List Chn:=(bT (tol*tol) 0 [] es).cs++mO (jZ tol es)++Ku (jK tol es) x
theorem LJ(tol:Rat)(es:List Ent):pU tol es 0=(bT (tol*tol) 0 [] es).cs++mO (jZ tol es):=by unfold pU Ku;simp
theorem wY(tol:Rat)(es:List Ent):(jZ tol es).length=es.length:=by unfold jZ;rw[Qk,oL]
theorem xP(tol:Rat)(es:List Ent):(jK tol es).length<=es.length:=by
 have:=(wH (jZ tol es) (jZ tol es).length).1;rw[Ac,wY]at this;exact this
theorem sJ(tol:Rat)(es:List Ent):(jL tol es).length<=es.length:=by
 have:=(vV (jK tol es) (jK tol es).length).1;rw[vJ]at this;have h2:=xP tol es;exact aP this h2
theorem UE{tol:Rat}{es:List Ent}(h:∀e∈es,okV e):∀x∈jZ tol es,okV x.1:=λx hx=>Nq h _ (zip_fst hx)
theorem KG{tol:Rat}{es:List Ent}(h:∀e∈es,okV e):∀x∈jK tol es,okV x.1:=QH (UE h)
theorem N9{tol:Rat}{es:List Ent}(h:∀e∈es,okV e):∀x∈jL tol es,okV x.1:=left_ok (KG h)
theorem rH{tol:Rat}{es:List Ent}(h:∀e∈es,okV e)(x:Nat):(bT (tol*tol) 0 [] es).cs.length<=2*es.length/\(mO (jZ tol es)).length<=es.length/\(pU tol es x).length<=4*es.length:=by
 have h1:=zk (q:=aF) (sq:=tol*tol) (es:=es) (λe he=>(h e he).2.1) es.length (gW _);have h2:=C9 es es.length;rw[kP]at h1;have h3:=(wH (jZ tol es) (jZ tol es).length).2;rw[Ah,wY]at h3;have h4:=(vV (jK tol es) x).2;have h5:=xP tol es;have h6:=h1.2.2.2.1;refine⟨ω,h3, ?_⟩;unfold pU;rw[bF,bF];omega
theorem tq(tol:Rat)(es:List Ent):(aO (tol*tol) es).es=(jL tol es).map (·.1)/\(aO (tol*tol) es).cs=pU tol es (jK tol es).length++zy (jL tol es):=by
 refine⟨rfl, ?_⟩;unfold pU;rw[QZ];rfl
theorem Hr{tol:Rat}{es:List Ent}(h:es.length<=12)(h4:∀e∈es,okV e):(aO (tol*tol) es).cs.length<=1000:=by
 rw[(tq tol es).2];have h1:=(rH (tol:=tol) h4 (jK tol es).length).2.2;have h2:=vX (jL tol es) (jL tol es).length (gW _);have h3:=sJ tol es;rw[H9]at h2;rw[bF];omega
theorem TJ{tol:Rat}{es:List Ent}{x:Nat}(h:x<(jK tol es).length)(hb:(bJ ((jK tol es).map (·.1))).getD x false=true):yM (jK tol es) (x+1)=yM (jK tol es) x/\pU tol es (x+1)=pU tol es x++[⟨3,((jK tol es).getD x N0).2,0,none,none⟩]:=by
 obtain⟨h1,h2⟩:=Zp h hb;refine⟨h1, ?_⟩;unfold pU;rw[h2,jQ,jQ,jQ]
theorem UU{tol:Rat}{es:List Ent}{x:Nat}(h:x<(jK tol es).length)(hb:(bJ ((jK tol es).map (·.1))).getD x false=false):yM (jK tol es) (x+1)=yM (jK tol es) x++[(jK tol es).getD x N0]/\pU tol es (x+1)=pU tol es x:=by
 obtain⟨h1,h2⟩:=ZP h hb;refine⟨h1, ?_⟩;unfold pU;rw[h2]
theorem JJ{l:List (Ent×Nat)}{x:Nat}(h:x<l.length):((l.take (x+1)).map (·.1)).map aK=((l.take x).map (·.1)).map aK++[aK (l.getD x N0).1]:=by
 rw[adG h,bH];rfl
def C0:Chn:=⟨0,0,0,none,none⟩
def OT(cs:List Chn):Bool:=cs.all λc=>decide (c.kind=4)
def Uj(cs:List Chn):Int:=match FZ cs.length (λi=>if(cs.getD i C0).kind=4 then none else some i)with
 |some i=>((i:Nat):Int)
 |none=>-1
theorem Ve{cs:List Chn}{x:Nat}(hx:x<cs.length)(h:∀j<x,(cs.getD j C0).kind=4)(h1:¬(cs.getD x C0).kind=4):Uj cs=(x:Nat):=by
 unfold Uj;rw[qH (x:=x) (r:=x) hx (λj hj=>by rw[if_pos (h j hj)]) (by rw[if_neg h1])]
theorem aaK{cs:List Chn}(h:∀j<cs.length,(cs.getD j C0).kind=4):Uj cs = -1:=by
 unfold Uj;rw[oh (λj hj=>by rw[if_pos (h j hj)])]
theorem aah(cs:List Chn):decide (Uj cs>=0) = !OT cs:=by
 unfold OT;cases e:FZ cs.length (λi=>if(cs.getD i C0).kind=4 then none else some i)with
 |none =>
  have h1:=EK e
  have h2:(cs.all λc=>decide (c.kind=4))=true:=by
   rw[jo];intro c hc;obtain⟨j,hj,rfl⟩:=BP hc;have h3:=h1 j hj;have e1:cs.getD j C0=cs[j]:=by simp[iI,hj]
   rw[e1]at h3;split at h3
   .rename_i g;simpa using g
   .cases h3
  rw[h2];unfold Uj;rw[e];rfl
 |some i =>
  obtain⟨j,hj,h3⟩:=Gf e
  have h2:(cs.all λc=>decide (c.kind=4))=false:=by
   rw[List.all_eq_false];have e1:cs.getD j C0=cs[j]:=by simp[iI,hj]
   rw[e1]at h3;split at h3
   .cases h3
   .rename_i g;exact⟨cs[j],wW hj,by simpa using g⟩
  rw[h2];unfold Uj;rw[e];simp
@[reducible] def Ce(x y u v:Int):Ent:=⟨1,⟨#[97]⟩,[((x:Rat),(y:Rat)),((u:Rat),(v:Rat))],⟨false,[],false,[]⟩⟩
def jB(x:Int):Prop:=-9223372036854775808<=x/\x<=9223372036854775807
theorem Bg{x y u v:Int}(h1:jB x)(h2:jB y)(h3:jB u)(h4:jB v):okV (Ce x y u v)/\kE (bW (Ce x y u v)):=by
 have z1:=F8 x h1.1 h1.2;have z2:=F8 y h2.1 h2.2;have z3:=F8 u h3.1 h3.2;have z4:=F8 v h4.1 h4.2
 have hs:∀q:Rat,rz q<=4->yA (iR q):=λq h=>by
  have e1:(lim q.num.natAbs).length<=rz q:=fH q;have e2:(lim (q.den:Int).natAbs).length<=rz q:=gu q;exact⟨by show(lim q.num.natAbs).length<=6;omega,by show(lim (q.den:Int).natAbs).length<=6;omega⟩
 refine⟨⟨.inl ⟨rfl,rfl⟩,λp hp=>?_,by show(ByteArray.mk #[97]).size<=1000;decide,by show 2<=3;decide⟩,λp hp=>?_,⟨jd 6,jd 6⟩,by show 2<=5;decide,by show(ByteArray.mk #[97]).size<=60;decide⟩
 .have hp':p=((x:Rat),(y:Rat))\/p=((u:Rat),(v:Rat)):=by simpa using hp
  rcases hp' with rfl|rfl
  .exact⟨aP z1 ψ,aP z2 ψ⟩
  .exact⟨aP z3 ψ,aP z4 ψ⟩
 .have hp':p=(iR (x:Rat),iR (y:Rat))\/p=(iR (u:Rat),iR (v:Rat)):=by simpa[bW]using hp
  rcases hp' with rfl|rfl
  .exact⟨hs _ z1,hs _ z2⟩
  .exact⟨hs _ z3,hs _ z4⟩
def aw1:List Ent:=[Ce 0 0 1000 0,Ce 1003 0 0 1000,Ce 0 1004 0 0]
def aw2:List Ent:=[Ce 0 0 2 0]
@[reducible] def aLL:List LayD:=[⟨⟨#[97]⟩,1,1000⟩]
theorem sZ:(∀e∈aw1,okV e)/\∀e∈aw1,kE (bW e):=by
 have h1:=Bg (x:=0) (y:=0) (u:=1000) (v:=0) (by unfold jB;omega) (by unfold jB;omega) (by unfold jB;omega) (by unfold jB;omega);have h2:=Bg (x:=1003) (y:=0) (u:=0) (v:=1000) (by unfold jB;omega) (by unfold jB;omega) (by unfold jB;omega) (by unfold jB;omega);have h3:=Bg (x:=0) (y:=1004) (u:=0) (v:=0) (by unfold jB;omega) (by unfold jB;omega) (by unfold jB;omega) (by unfold jB;omega);constructor<;>(intro e he;simp only[aw1,pV,List.not_mem_nil,or_false]at he;rcases he with rfl|rfl|rfl)
 .exact h1.1
 .exact h2.1
 .exact h3.1
 .exact h1.2
 .exact h2.2
 .exact h3.2
theorem NZ:(∀e∈aw2,okV e)/\∀e∈aw2,kE (bW e):=by
 have h1:=Bg (x:=0) (y:=0) (u:=2) (v:=0) (by unfold jB;omega) (by unfold jB;omega) (by unfold jB;omega) (by unfold jB;omega);constructor<;>(intro e he;simp only[aw2,pV,List.not_mem_nil,or_false]at he;subst he)
 .exact h1.1
 .exact h1.2
theorem OW:dZ aLL (aw1.map bW)=0:=by decide +kernel
theorem Zk:dZ aLL (aw2.map bW)=0:=by decide +kernel
theorem O9{cs:List Chn}{l:List (Nat×Nat)}(h:(cs.map λc=>(c.kind,c.ent))=l):cs.length=l.length/\∀i,i<l.length->(cs.getD i C0).kind=(l.getD i (0,0)).1/\(cs.getD i C0).ent=(l.getD i (0,0)).2:=by
 subst h;refine⟨η,λi hi=>?_⟩;have hi':i<cs.length:=by simpa using hi
 simp[iI,hi']
theorem YB:((aO (((5:Int):Rat)*((5:Int):Rat)) aw1).cs.map λc=>(c.kind,c.ent))=[(1,1),(1,2)]:=by decide +kernel
theorem aar:((aO (((3:Int):Rat)*((3:Int):Rat)) aw1).cs.map λc=>(c.kind,c.ent))=[(1,1),(4,1),(4,2)]:=by decide +kernel
theorem Yu:((aO (((5:Int):Rat)*((5:Int):Rat)) aw2).cs.map λc=>(c.kind,c.ent))=[(1,0),(2,0)]:=by decide +kernel
theorem aaL:(aO (((5:Int):Rat)*((5:Int):Rat)) aw2).es.length=0:=by decide +kernel
theorem YR:OT (aO (((5:Int):Rat)*((5:Int):Rat)) aw1).cs=false:=by decide +kernel
theorem Df{n:Int}(h:0<=n)(h2:n<=100):rz (n:Rat)<=12/\¬(n:Rat)<0:=⟨aP (F8 n ω ω) ψ,λhn=>by
 have:=Rat.intCast_lt_intCast.1 (show((n:Int):Rat)<((0:Int):Rat)from hn)
 omega⟩
def PL(r:Rq):Bool:=decide (r.l.length<=6)&&decide (r.m.length<=6)
theorem wC{r:Rq}:PL r=true↔yA r:=by
 unfold PL yA;simp
theorem Vj{r:Rq}(h:¬(r.l.length<=6/\r.m.length<=6)):PL r=false:=by
 rw[<-Bool.not_eq_true,wC];exact h
def vsB(p:Rq×Rq):Bool:=PL p.1&&PL p.2
def uQ(e:EntR):Bool:=(decide (e.pts.length<=5)&&(decide (e.layer.size<=60)&&PL e.rad))&&e.pts.all vsB
def Jf(ls:List LayD)(es:List EntR):Bool:=decide (ls.length<=25)&&(ls.all (λl=>decide (l.name.size<=60))&&es.all uQ)
theorem vI{α:Type}{l:List α}{p:α->Bool}(d:α):l.all p=true↔∀j<l.length,p (l.getD j d)=true:=by
 rw[jo];constructor
 .intro h j hj;have:l.getD j d∈l:=by simp[List.getD,hj]
  exact h _ this
 .intro h x hx;obtain⟨j,hj,rfl⟩:=BP hx;have:=h j hj;simpa[List.getD,hj]using this
theorem EH{α:Type}{l:List α}{p:α->Bool}(d:α){j:Nat}(h:j<l.length)(h1:p (l.getD j d)=false):l.all p=false:=by
 rw[<-Bool.not_eq_true,vI d];intro h2;have:=h2 j h;rw[h1]at this;cases this
theorem Xt{ls:List LayD}{es:List EntR}(h:¬ls.length<=25):Jf ls es=false:=by unfold Jf;rw[decide_eq_false h];rfl
theorem XK{ls:List LayD}{es:List EntR}{x:Nat}(hx:x<ls.length)(h:¬(ls.getD x L0).name.size<=60):Jf ls es=false:=by
 unfold Jf;rw[EH L0 hx (decide_eq_false h)];simp
theorem Ad{ls:List LayD}{es:List EntR}{x:Nat}(hx:x<es.length)(h:uQ (es.getD x ni)=false):Jf ls es=false:=by
 unfold Jf;rw[EH ni hx h];simp
theorem Yv{ls:List LayD}{es:List EntR}(h:ls.length<=25)(h1:∀j<ls.length,(ls.getD j L0).name.size<=60)(h2:∀j<es.length,uQ (es.getD j ni)=true):Jf ls es=true:=by
 unfold Jf;rw[decide_eq_true h,(vI ni).2 h2,(vI L0).2 (λj hj=>decide_eq_true (h1 j hj))];rfl
theorem E5{e:EntR}(h:¬e.pts.length<=5\/¬e.layer.size<=60\/PL e.rad=false):uQ e=false:=by
 unfold uQ;rcases h with h|h|h
 .rw[decide_eq_false h];rfl
 .rw[decide_eq_false h];simp
 .rw[h];simp
theorem XZ{e:EntR}{k:Nat}(hk:k<e.pts.length)(h:vsB (e.pts.getD k mQ)=false):uQ e=false:=by
 unfold uQ;rw[EH mQ hk h];simp
theorem W9{e:EntR}(h1:e.pts.length<=5)(h2:e.layer.size<=60)(h3:PL e.rad=true)(h4:∀k<e.pts.length,vsB (e.pts.getD k mQ)=true):uQ e=true:=by
 unfold uQ;rw[decide_eq_true h1,decide_eq_true h2,h3,(vI mQ).2 h4];rfl
theorem Qg{e:EntR}(h:uQ e=true):kE e:=by
 unfold uQ at h;simp only[bY,decide_eq_true_eq,jo]at h;obtain⟨⟨h1,h2,h3⟩,h4⟩:=h;refine⟨λp hp=>?_,wC.1 h3,h1,h2⟩;have:=h4 p hp;unfold vsB at this;rw[bY,wC,wC]at this;exact this
theorem VL{ls:List LayD}{es:List EntR}(h:Jf ls es=true):ls.length<=25/\(∀l∈ls,l.name.size<=1000)/\∀e∈es,kE e:=by
 unfold Jf at h;simp only[bY,decide_eq_true_eq,jo]at h;exact⟨h.1,λl hl=>aP (h.2.1 l hl) ψ,λe he=>Qg (h.2.2 e he)⟩
def smA(ls:List LayD)(es:List EntR)(t:Rq):Bool:=(decide (es.length<=12)&&Jf ls es)&&Us 3 (t.a,t.l,t.b,t.m)
theorem U3{ls:List LayD}{es:List EntR}{t:Rq}(h:smA ls es t=true):ls.length<=25/\(∀l∈ls,l.name.size<=1000)/\es.length<=12/\(∀e∈es,kE e)/\∃q:Rat,t=iR q/\rz q<=6:=by
 unfold smA Us at h;simp only[bY,decide_eq_true_eq]at h;obtain⟨⟨h1,h2⟩,h3,h4,h5⟩:=h;obtain⟨g1,g2,g3⟩:=VL h2;refine⟨g1,g2,h1,g3,qR t,qK h5, ?_⟩;have e:=qK (r:=t) h5;generalize qR t=q at e;subst e;have h3':(lim q.num.natAbs).length<=3:=by have:((lim q.num.natAbs).length:Int)<=3:=h3;omega
 have h4':(lim (q.den:Int).natAbs).length<=3:=by have:((lim (q.den:Int).natAbs).length:Int)<=3:=h4;omega
 unfold rz sz;omega
def ptQ(p:P2):Prop:=aF p/\(yA (iR p.1)/\yA (iR p.2))/\(xE p.1&&xE p.2)=true
theorem Nr{ls:List LayD}{es:List EntR}{j:Nat}(h:kN ls es j=none):¬kU ls (es.getD j ni).layer<0/\iC (es.getD j ni)=true:=by
 unfold kN at h;split at h
 .cases h
 .rename_i g;split at h
  .cases h
  .rename_i f;exact⟨g,by simpa using f⟩
theorem WY{es:List Ent}{e:Ent}(h:e∈es):∃j<es.length,(es.map bW).getD j ni=bW e:=by
 obtain⟨j,hj,rfl⟩:=BP h;exact⟨j,hj,by simp[List.getD,hj]⟩
theorem RY{es:List Ent}{j:Nat}(h:j<es.length):∃e∈es,(es.map bW).getD j ni=bW e:=⟨es[j],wW h,by simp[List.getD,h]⟩
theorem Jh{ls:List LayD}{es:List Ent}{q:Rat}(h3:es.length<=12)(h4:∀e∈es,okV e)(h5:∀e∈es,kE (bW e))(h8:dZ ls (es.map bW)=0):
 (aO (q*q) es).es.length<=12/\(∀e∈(aO (q*q) es).es,okV e)/\(∀e∈(aO (q*q) es).es,kE (bW e))/\dZ ls ((aO (q*q) es).es.map bW)=0:=by
 have hv:=Uo h8
 have hlen:(aO (q*q) es).es.length<=12:=by
  rw[(tq q es).1,aG];exact aP (sJ q es) h3
 have hall:∀e∈es,¬kU ls e.layer<0/\iC (bW e)=true:=λe he=>by
  obtain⟨j,hj,e1⟩:=WY he;have:=Nr (hv.2.2.2 j (by rw[aG];exact hj));rw[e1]at this;exact this
 have hq:∀e∈es,∀p∈e.pts,ptQ p:=λe he p hp=>by
  have hr:(iR p.1,iR p.2)∈(bW e).pts:=dR.2 ⟨p,hp,rfl⟩;refine⟨(h4 e he).2.1 p hp,(h5 e he).1 _ hr, ?_⟩;have h6:=(hall e he).2;unfold iC at h6;simp only[bY,jo]at h6;have h7:=h6.2.1 _ hr;rw[wF,wF]at h7;rw[bY];exact h7
 have key:∀e'∈(aO (q*q) es).es,okV e'/\kE (bW e')/\¬kU ls e'.layer<0/\iC (bW e')=true:=λe' he'=>by
  obtain⟨e,he,k1,k2,k3,k4,k5⟩:=PY hq he'
  have hl:(bW e').pts.length=(bW e).pts.length:=by
   show(e'.pts.map _).length=(e.pts.map _).length;rw[aG,aG,k3]
  have hb:=(hall e he).2;refine⟨⟨?_,λp hp=>(k5 p hp).1,by rw[k1];exact(h4 e he).2.2.1,by rw[k3];exact(h4 e he).2.2.2⟩,⟨λp hp=>?_, ?_, ?_, ?_⟩,by rw[k1];exact(hall e he).1, ?_⟩
  .have:=(h4 e he).1;rw[k2,k3,k4];exact this
  .obtain⟨u,hu,rfl⟩:=dR.1 hp;exact(k5 u hu).2.1
  .show yA e'.rad;rw[k4];exact(h5 e he).2.1
  .rw[hl];exact(h5 e he).2.2.1
  .show e'.layer.size<=60;rw[k1];exact(h5 e he).2.2.2
  .unfold iC at hb ⊢;simp only[bY,jo]at hb ⊢;refine⟨?_,λp hp=>?_, ?_⟩
   .refine decide_eq_true ?_;have h6:=of_decide_eq_true hb.1;rw[hl];show e'.kind=1/\_\/e'.kind=2/\_\/e'.kind=3/\_;rw[k2];exact h6
   .obtain⟨u,hu,rfl⟩:=dR.1 hp;have:=(k5 u hu).2.2;rw[bY]at this;rw[wF,wF];exact this
   .have h7:=hb.2.2;simp only[zS,bY,decide_eq_true_eq]at h7 ⊢;show¬e'.kind=3\/eH e'.rad=true/\0<qR e'.rad;rw[k2,k4];exact h7
 refine⟨hlen,λe he=>(key e he).1,λe he=>(key e he).2.1,F7 ?_ hv.2.2.1 λj hj=>?_⟩
 .rw[aG];have:=hv.1;omega
 .rw[aG]at hj;obtain⟨e,he,e1⟩:=RY hj;obtain⟨_,_,g1,g2⟩:=key e he;unfold kN;rw[e1,if_neg g1,g2];rfl
open Go.Lib
theorem Qo{e:EntR}(h:e.kind=3)(h1:(eH e.rad&&decide (0<qR e.rad))=false):iC e=false:=by
 unfold iC;rw[h1,decide_eq_false (show¬¬e.kind=3 fromλg=>g h)];simp
theorem Vf{ls:List LayD}{x:Nat}(h:(!wR (ls.getD x L0))=true):lu ls x=some 1:=by
 unfold lu;rw[if_pos (by simpa using h)]
theorem VJ{ls:List LayD}{x:Nat}(h:(!wR (ls.getD x L0))=false)(h2:kU ls (ls.getD x L0).name<(x:Nat)):lu ls x=some 5:=by
 unfold lu;rw[if_neg (by simpa using h),if_pos h2]
theorem Xr{ls:List LayD}{x:Nat}(h:(!wR (ls.getD x L0))=false)(h2:¬kU ls (ls.getD x L0).name<(x:Nat)):lu ls x=none:=by
 unfold lu;rw[if_neg (by simpa using h),if_neg h2]
theorem Xw{ls:List LayD}{es:List EntR}{x:Nat}(h:kU ls (es.getD x ni).layer<0):kN ls es x=some 4:=by
 unfold kN;rw[if_pos h]
theorem Xc{ls:List LayD}{es:List EntR}{x:Nat}(h:¬kU ls (es.getD x ni).layer<0)(h2:(!iC (es.getD x ni))=true):kN ls es x=some 1:=by
 unfold kN;rw[if_neg h,if_pos (by simpa using h2)]
theorem Va{ls:List LayD}{es:List EntR}{x:Nat}(h:¬kU ls (es.getD x ni).layer<0)(h2:(!iC (es.getD x ni))=false):kN ls es x=none:=by
 unfold kN;rw[if_neg h,if_neg (by simpa using h2)]
end Go.Sw
namespace Go.Sw
open Go Go.RowKit
theorem ex_idxq{P:Program}{ρ:Operand->Value}{w:World}{d:Option Tmp}{ty:TypeId}{pos:String}{af:Array Edge}{gd:Option (Nat×Bool)}{t e:TypeId}{s:Nat}{x y:Operand}{g n c:Nat}{k:IntKind}{j:Nat}(ht:sliceOf P t=some (e,s))(hx:ρ x=.slice (some ⟨g,0,none⟩) n c)(hy:ρ y=.int k (j:Nat))(h1:j<n):
 (execOp ρ ⟨d,.indexAddr t x y,ty,pos,af,gd⟩).run P w=.ok (.value (.pointer (some ⟨g,j*s,none⟩))) w:=by
 have:=ex_idxr (w:=w) (d:=d) (ty:=ty) (pos:=pos) (af:=af) (gd:=gd) ht hx rfl hy rfl h1
 rwa [Addr.add_lit,pq]at this
def JEnd(P:Program)(kT T:TypeId)(s:Nat)(st:JS)(w:World)(X:List Nat)(us:List Value)(more:List Bx)(mo:Nat×Array MapEntry×Nat)(r:AV)(u:Value)(w':World):Prop :=
 ∃(more':List Bx) (mo':Nat×Array MapEntry×Nat),mo'.1=mo.1/\w'.heap[mo.1]?=some (.map mo'.2.1 mo'.2.2)/\(∀q∈more',(q.1∈bl more\/w.heap.size<=q.1)/\w'.heap[q.1]?=some (.cells q.2.2 q.2.1 (0,0)))/\(more'.Pairwise λa b=>a.1≠b.1) /\
  (w'.os=w.os/\w'.tape=w.tape/\w'.output=w.output/\w.heap.size<=w'.heap.size/\∀k,k<w.heap.size->k≠mo.1->k ∉ bl more->w'.heap[k]?=w.heap[k]?)/\RepR w' (bl more'++X) u r/\(jgho P kT T s st).rep w' (bl more'++X) us more' mo'
theorem RepR.ext{w w':World}{X X':List Nat}{u:Value}{r:AV}(h:RepR w X u r)(e:Ext w X w' X'):RepR w' X' u r:=by
 cases h with
 |d h=>exact .d (h.ext e)
 |tup hl h=>exact .tup hl λi u v a b=>(h i u v a b).ext e
theorem jfin{P:Program}{kT T:TypeId}{s:Nat}{st:JS}{w w':World}{X:List Nat}{us:List Value}{more:List Bx}{mo:Nat×Array MapEntry×Nat}{r:AV}{u:Value}{m:Nat}(hB:Below w.heap.size w w')(hmore:∀q∈more,q.1∈X/\w.heap[q.1]?=some (.cells q.2.2 q.2.1 (0,0)))(hnd:more.Pairwise λa b=>a.1≠b.1)
 (hmap:w.heap[mo.1]?=some (.map mo.2.1 mo.2.2)) (hrep:jrep P kT T s st w X us more mo) (hn:st.n<=m) (hR:RepR w X u r):JEnd P kT T s ⟨st.sq,st.f,m⟩ w X us more mo r u w':=by
 have hext:Ext w X w' (bl more++X):=⟨hB.size,λk hk hx _=>⟨hB.block k hk,λhm=>by
  rcases jP.1 hm with hm|hm
  .obtain⟨q,hq,rfl⟩:=dR.1 hm;exact hx (hmore q hq).1
  .exact hx hm⟩⟩
 refine⟨more,mo,rfl,(hB.block _ (lt_of_heap hmap)).trans hmap,λq hq=>⟨.inl (dR.2 ⟨q,hq,rfl⟩),(hB.block _ (lt_of_heap (hmore q hq).2)).trans (hmore q hq).2⟩,hnd,⟨hB.os,hB.tape,hB.output,hB.size,λk hk _ _=>hB.block k hk⟩,hR.ext hext, ?_⟩;obtain⟨us',h1,h2,h3,h4,val,og,h5,h6,h7⟩:=hrep;exact⟨us',h1,h2.ext hext,h3,aP h4 hn,val,og,h5,λk=>(h6 k).ext hext,h7⟩
theorem jfound{sq:Rat}{sp:Spots}{s:ByteArray}{v:P2}{n:Nat}(h:0<=bestI sq v (spotsAt sp s) (spotsAt sp s).length):(jst sq (joinP sq sp s v).1 n)=jst sq sp n/\(joinP sq sp s v).2=(spotsAt sp s).getD (bestI sq v (spotsAt sp s) (spotsAt sp s).length).toNat P0:=by
 obtain⟨_,_,h3⟩:=bestI_ok sq v (spotsAt sp s) _ (gW _);rw[xY,if_neg ω]at h3;unfold joinP;rw[h3];exact⟨rfl,rfl⟩
theorem jnew{sq:Rat}{sp:Spots}{s:ByteArray}{v:P2}{n:Nat}(h:bestI sq v (spotsAt sp s) (spotsAt sp s).length<0):(jst sq (joinP sq sp s v).1 (n+1))=(jst sq sp n).add s (vecC v)/\(joinP sq sp s v).2=v:=by
 obtain⟨_,_,h3⟩:=bestI_ok sq v (spotsAt sp s) _ (gW _);rw[xY,if_pos h]at h3;unfold joinP;rw[h3,jst_add];exact⟨rfl,rfl⟩
open Go.Proofs Go.Shelf Go.Lib
set_option maxRecDepth 100000 in
theorem clone_at{P:Program}{ρ:Ren}(L:SlLaysE0.n41 P ρ)(i0:TypeInfo)(z:Value)(size bytes:Nat)(hi:P.info? (ρ.t 23)=some i0)(hz0:i0.zero=some z)(hz1:i0.size=size)(hz2:i0.bytes=bytes)(hzs:z.cells.size=size)(hsz:0<size)
 (z23:∀w,(Go.sizeOf (ρ.t 23)).run P w=.ok size w) (a:Addr) (n c:Nat) (news:List Value) (w:World) (hl:news.length=n*size) (hn:n<=maxLen) (hbig:n*bytes<=140737488355328)
 (hc:∀j u,news[j]?=some u->w.cell? (a.add j)=some u) (h1:∀u∈news,u.oneCell'=true) :
 Calls P (ρ.f 41) #[.slice (some a) n c] w λe w'=>∃v',e=.returned v'/\w'.ownsRow w.heap.size (ρ.t 23) size v' n news/\Below w.heap.size w w':=by
 have mixed:=L.mixed;have t4:=L.t4;have a4:=L.a4;have z4:=L.z4;have v4:=L.v4;have t22:=L.t22;have a22:=L.a22;have z22:=L.z22;have v22:=L.v22;have q22:∀(w:World) (a:Option Addr) (n c n' c':Nat),(binOp .eql (ρ.t 22) (.slice a n c) (.slice none n' c')).run P w=.ok (.bool a.isNone) w:=λw a n c n' c'=>Lib.run_eql_slice_nil w _ _ a n c n' c' L.t22
 have u22:∀w,Sem.run P (underlying (ρ.t 22)) w=.ok (TypeDesc.slice (ρ.t 23)) w:=run_underlying t22;have A:Aside (∀j u,news[j]?=some u->w.cell? (a.add j)=some u):=hc;clear hc;obtain⟨_,_,FG⟩:=L.f41
 go_enter FG,SlBodyN.n41_ntmps ρ
 go_wp2_with (at_builtin;refine wpList_append_own _ rfl _ _ (ρ.t 22) rfl w.heap.size (ρ.t 23) i0 z size bytes t22 hi hz0 hz1 hz2 hzs hsz _ _ _ rfl (World.ownsRow_made w #[] 0 (gW _) (jd _) η) a n c news rfl ?qc1 ?qc2 ?qc3 ?qc4 ?qc5 ?qc6 ?_)
 case qc1=>exact hl
 case qc2=>exactλj u hj=>Lib.cell?_alloc_some _ (A.out j u hj)
 case qc3=>exact h1
 case qc4=>rw[pq];exact hn
 case qc5=>rw[pq];exact hbig
 case qc6=>simp
 intro v' w1 hown hgrow hnil
 go_wp2
 go_ret
 exact⟨v',rfl,by simpa using hown,((Below.refl _ w).alloc (gW _) _).grown hgrow η (by intro k hk;simp[Value.ownBlock]at hk;omega)⟩
theorem Jt{P:Program}[Wld P]{ρ:Ren}(L:SlLaysE0.n41 P ρ)(hb:hasBody P (ρ.f 41)=true)(i0:TypeInfo)(z:Value){k:Nat}(hi:P.info? (ρ.t 23)=some i0)(hz0:i0.zero=some z)(hz1:i0.size=k)(hby:i0.bytes<=1000000)(hzs:z.cells.size=k)(hk:0<k)
 (z23:∀w,(Go.sizeOf (ρ.t 23)).run P w=.ok k w) {es:List (List Cell)} (hn:es.length<=1000000):Den P (ρ.f 41) [.c (.sl k es)] (.c (.sl k es)):=by
 refine Den.of ⟨hb,λw X vs hW hX hl hr=>?_⟩ rfl
 match vs,hl with
 |[u],_ =>
 have hu:RepC w X u (.sl k es):=by
  have:=hr 0 u _ rfl rfl;cases this with
  |c h=>exact h
 obtain⟨A,cap,uss,rfl,hcap,hmx,hc,hS⟩:=RepS.of_sl hu
 have hone:∀us∈uss,∀u∈us,u.oneCell'=true:=λus hu=>by
  obtain⟨j,hj,rfl⟩:=BP hu;exact(hS.get j _ _ (fM hj) (fM (by rw[<-hS.len];exact hj))).one
 have hfl:uss.flatten.length=es.length*k:=by rw[flatten_len hS.sz,hS.len]
 cases A with
 |none =>
  have h0:uss.flatten=[]:=by
   by_cases h:uss.flatten=[]
   .exact h
   .obtain⟨ad,h1,_⟩:=hc h;cases h1
  rw[h0]at hfl
  have:es=[]:=by
   rcases rQ es.length with h|h
   .exact BQ h
   .have:=Nat.mul_pos h hk;simp at hfl;omega
  subst this;refine Calls.mono (AnyE.slices_Clone_nil L _ _ w) ?_;rintro e w' ⟨rfl,rfl⟩;exact⟨_,rfl,(RepR.d (.c (RepC.nil _ _ _))).f,Below.refl _ _⟩
 |some a =>
  refine Calls.mono (clone_at L i0 z k i0.bytes hi hz0 hz1 rfl hzs hk z23 a es.length cap uss.flatten w hfl (by unfold maxLen;omega) (aP (Gu hn hby) ω) (λj u hj=>?_) (λu hu=>?_)) ?_
  .obtain⟨ad,h1,_,_,h2⟩:=hc (λh=>by rw[h]at hj;cases hj);cases h1;exact h2 j u hj
  .obtain⟨us,h1,h2⟩:=List.mem_flatten.1 hu;exact hone us h1 u h2
  .rintro e w' ⟨v',rfl,hown,hB⟩;have hext:=Ext.call X hB;have hS':=hS.ext hext;refine⟨v',rfl,(RepR.d (.c ?_)).f,hB⟩;rcases hown with⟨_,⟨rfl,h0⟩|⟨g,cap',cur,rfl,h1,h2,h3,h4,h5,h6⟩⟩
   .have:es=[]:=BQ h0;subst this;exact RepC.nil _ _ _
   .refine RepS.sl hS' (λhne=>?_) h3 (by unfold maxLen at h4;omega)
    have hgl:g<w'.heap.size:=by
     rcases yP g w'.heap.size with h'|h'
     .exact h'
     .rw[Array.getElem?_eq_none h']at h2;cases h2
    refine⟨_,rfl,hgl,λhm=>?_,λj u hj=>?_⟩
    .have:=hX g hm;omega
    .rw[<-h6,wL]at hj;split at hj
     .rw[Addr.add_lit,pq,cell_of_row w' g j cur _ _ h2,<-Array.getElem?_toList];exact hj
     .cases hj
theorem RepC.sl_nil{w:World}{X:List Nat}{u:Value}{s k:Nat}(h:RepC w X u (.sl s [])):RepC w X u (.sl k []):=by
 cases h with
 |sl A n cap s uss es hn hu hc hcap hmx hs hr =>
  exact .sl A n cap k uss [] hn hu hc hcap hmx (λi us e a b=>by simp at b) (λi us e a b=>by simp at b)
theorem O5{P:Program}[Wld P]{f:FuncId}{xs:List AV}{s k:Nat}{es:List (List Cell)}{y:AV}(hn:noTup xs=true)(h:s=k\/es=[])(hd:Den P f xs (.tup [.c (.sl s es),y])):Den P f xs (.tup [.c (.sl k es),y]):=by
 rcases h with rfl|rfl
 .exact hd
 .obtain⟨hb,hd⟩:=hd.old hn;refine Den.of ⟨hb,λw X vs hW hX hl hr=>(hd w X vs hW hX hl hr).mono ?_⟩ hn;rintro e w' ⟨u,rfl,hR,hB⟩;refine⟨u,rfl, ?_,hB⟩;obtain⟨us,vs',G,h1,h2,h3,h4⟩:=hR;rcases h1 with⟨rfl,h1⟩|⟨_,_,h1⟩
  .cases h1;cases h4 with
   |d hd t =>
    cases hd with
    |c hc=>exact⟨_,_,G,.inl ⟨rfl,rfl⟩,h2,h3,.d (.c hc.sl_nil) t⟩
  .cases h1
theorem den_clone_own{P:Program}[Wld P]{ρ:Ren}(L:SlLaysE0.n41 P ρ)(hb:hasBody P (ρ.f 41)=true)(i0:TypeInfo)(z:Value){k:Nat}(hi:P.info? (ρ.t 23)=some i0)(hz0:i0.zero=some z)(hz1:i0.size=k)(hby:i0.bytes<=1000000)(hzs:z.cells.size=k)(hk:0<k)
 (z23:∀w,(Go.sizeOf (ρ.t 23)).run P w=.ok k w) {es:List (List Cell)} (hn:es.length<=1000000):Den P (ρ.f 41) [.c (.sl k es)] (.own (ρ.t 23) k es):=by
 refine Den.of ⟨hb,λw X vs hW hX hl hr=>?_⟩ rfl
 match vs,hl with
 |[u],_ =>
 have hu:RepC w X u (.sl k es):=by
  have:=hr 0 u _ rfl rfl;cases this with
  |c h=>exact h
 obtain⟨A,cap,uss,rfl,hcap,hmx,hc,hS⟩:=RepS.of_sl hu
 have hone:∀us∈uss,∀u∈us,u.oneCell'=true:=λus hu=>by
  obtain⟨j,hj,rfl⟩:=BP hu;exact(hS.get j _ _ (fM hj) (fM (by rw[<-hS.len];exact hj))).one
 have hfl:uss.flatten.length=es.length*k:=by rw[flatten_len hS.sz,hS.len]
 cases A with
 |none =>
  have h0:uss.flatten=[]:=by
   by_cases h:uss.flatten=[]
   .exact h
   .obtain⟨ad,h1,_⟩:=hc h;cases h1
  rw[h0]at hfl
  have:es=[]:=by
   rcases rQ es.length with h|h
   .exact BQ h
   .have:=Nat.mul_pos h hk;simp at hfl;omega
  subst this;refine Calls.mono (AnyE.slices_Clone_nil L _ _ w) ?_;rintro e w' ⟨rfl,rfl⟩;exact⟨_,rfl,⟨[_],[_],[],.inr ⟨rfl,rfl,rfl⟩,η,List.nodup_nil,.own0 hk .nil⟩,Below.refl _ _⟩
 |some a =>
  refine Calls.mono (clone_at L i0 z k i0.bytes hi hz0 hz1 rfl hzs hk z23 a es.length cap uss.flatten w hfl (by unfold maxLen;omega) (aP (Gu hn hby) ω) (λj u hj=>?_) (λu hu=>?_)) ?_
  .obtain⟨ad,h1,_,_,h2⟩:=hc (λh=>by rw[h]at hj;cases hj);cases h1;exact h2 j u hj
  .obtain⟨us,h1,h2⟩:=List.mem_flatten.1 hu;exact hone us h1 u h2
  .rintro e w' ⟨v',rfl,hown,hB⟩;refine⟨v',rfl, ?_,hB⟩;rcases hown with⟨_,⟨rfl,h0⟩|⟨g,cap',cur,rfl,h1,h2,h3,h4,h5,h6⟩⟩
   .have:es=[]:=BQ h0;subst this;exact⟨[_],[_],[],.inr ⟨rfl,rfl,rfl⟩,η,List.nodup_nil,.own0 hk .nil⟩
   .have hS':=hS.ext ((Ext.call X hB).add h1);have hcur:cur=(uss.flatten++cur.toList.drop (es.length*k)).toArray:=by rw[<-h6,Gg]
    have hlen:(uss.flatten++cur.toList.drop (es.length*k)).length=cur.size:=by rw[<-h6,Gg];simp
    exact⟨[_],[_],[g],.inr ⟨rfl,rfl,rfl⟩,by simpa using h1,η,.own hk (by rw[<-hcur];exact h2) hS' (by rw[hlen];exact h5.symm) h4 h3 .nil⟩
end Go.Sw
namespace Go.Sw
open Go
theorem Tm{a b c p:P2}(h:¬fZ a b c=0):UO (ctr a b c) (GN a b c) (!decide (0<fZ a b c)) a c p=uD a b c p:=by
 obtain⟨e1,e2,e3,hq⟩:=I5 h;rw[Qy hq e1 e3];exact Hy h
theorem XO{a b:P2}(h:(a.2-b.2)=0/\(b.1-a.1)=0):pE a b=true:=by
 unfold pE;rw[decide_eq_true (show a.1=b.1 by grind),decide_eq_true (show a.2=b.2 by grind)];rfl
theorem Ul{e:Ent}{a b:P2}(hE:aA e=[a,b])(h:pE a b=true):packA [AV.int .i64 2]=AV.int .i64 (dJ e:Nat):=by rw[vM hE h];rfl
theorem aaq{l:ByteArray}{a b:P2}{r:Rq}(h:pE a b=false):packA [AV.int .i64 0]=AV.int .i64 (dJ ⟨1,l,[a,b],r⟩:Nat):=by
 rw[lY (e:=⟨1,l,[a,b],r⟩) (a:=a) (b:=b) rfl h,if_neg (λg=>absurd g.1 (show¬(1:Int)=2 by decide))];rfl
theorem U5{l:ByteArray}{a m b:P2}{r:Rq}(h:pE a b=false)(h2:¬fZ a m b=0):packA [AV.int .i64 0]=AV.int .i64 (dJ ⟨2,l,[a,m,b],r⟩:Nat):=by
 rw[lY (e:=⟨2,l,[a,m,b],r⟩) (a:=a) (b:=b) rfl h,if_neg (λg=>h2 (by simpa[uT]using g.2))];rfl
theorem Xx{l:ByteArray}{a m b:P2}{r:Rq}(h:pE a b=false)(h2:fZ a m b=0):packA [AV.int .i64 5]=AV.int .i64 (dJ ⟨2,l,[a,m,b],r⟩:Nat):=by
 rw[lY (e:=⟨2,l,[a,m,b],r⟩) (a:=a) (b:=b) rfl h,if_pos ⟨rfl,by simpa[uT]using h2⟩];rfl
theorem Yw{l:ByteArray}{a:P2}{r:Rq}:packA [AV.int .i64 0]=AV.int .i64 (dJ ⟨3,l,[a],r⟩:Nat):=by
 rw[Aq (e:=⟨3,l,[a],r⟩) rfl,if_neg (λg=>absurd g.1 (show¬(3:Int)=2 by decide))];rfl
theorem Zi{l1 l2:ByteArray}{a b c d:P2}{r1 r2:Rq}(hl:(!(l1.toList == l2.toList))=false):nP [a,b] [c,d]=aZ ⟨1,l1,[a,b],r1⟩ ⟨1,l2,[c,d],r2⟩:=by
 have h:(l1.toList == l2.toList)=true:=by simpa using hl
 rw[CJ,h,BM,jr,jr,jr,jr];unfold nP;rw[vG];simp
theorem MR{e f:Ent}(hl:(!(e.layer.toList == f.layer.toList))=true):false=aZ e f:=by
 have h:(e.layer.toList == f.layer.toList)=false:=by simpa using hl
 unfold aZ eqS;rw[h];rfl
theorem Zz{l1 l2:ByteArray}{a c:P2}{q1 q2:Rat}(hl:(!(l1.toList == l2.toList))=false):(pE a c&&decide (q1=q2))=aZ ⟨3,l1,[a],iR q1⟩ ⟨3,l2,[c],iR q2⟩:=by
 have h:(l1.toList == l2.toList)=true:=by simpa using hl
 rw[CS,h,BM]
theorem ZB{l1 l2:ByteArray}{a m b c n d:P2}{r1 r2:Rq}(hl:(!(l1.toList == l2.toList))=false):(nP [a,m,b] [c,n,d] ||(nP [a,b] [c,d]&&(uD a m b n&&uD c n d m)))=aZ ⟨2,l1,[a,m,b],r1⟩ ⟨2,l2,[c,n,d],r2⟩:=by
 have h:eqS l1 l2=true:=by have:(l1.toList == l2.toList)=true:=by simpa using hl
                           exact this
 rw[vG,VI,jJ];unfold sE;simp only[h,true_and]
theorem rpS{l:List Ent}{x:Nat}(h:x<l.length):bJ (l.take (x+1))=bJ (l.take x)++[(l.take x).any λf=>aZ f (l.getD x E0)]:=by
 rw[AY h,FX]
theorem anS{l:List Ent}{e:Ent}{y:Nat}(h:y<l.length):((l.take (y+1)).any λf=>aZ f e)=(((l.take y).any λf=>aZ f e)||aZ (l.getD y E0) e):=by
 rw[AY h,List.any_append];simp
theorem nM{l:List Ent}(h:∀e∈l,okV e){x:Nat}(hx:x<l.length):okV (l.getD x E0):=h _ (nN hx)
@[reducible] def Lr(p:Nat × Nat):List Cell:=[.v (.int .i64 (p.1:Nat)),.v (.int .i64 (p.2:Nat))]
def Oo(l:List Ent)(i n:Nat)(v:P2)(k j:Nat):Bool:=eqS (l.getD k E0).layer (l.getD i E0).layer&&((k != i||j != n)&&pE v ((aA (l.getD k E0)).getD j P0))
def Qb(l:List Ent)(i n:Nat)(v:P2)(k:Nat):Bool:=(List.range (aA (l.getD k E0)).length).any (Oo l i n v k)
def KQ(l:List Ent)(i n:Nat)(v:P2)(k m:Nat):Bool:=(List.range k).any (Qb l i n v) ||(List.range m).any (Oo l i n v k)
theorem Yx{l:List Ent}{i n k m:Nat}{v:P2}:KQ l i n v k (m+1)=(KQ l i n v k m||Oo l i n v k m):=by
 unfold KQ;rw[PE,List.any_append];simp[Bool.or_assoc]
theorem Y8{l:List Ent}{i n k m:Nat}{v:P2}(h:m=(aA (l.getD k E0)).length):KQ l i n v k m=KQ l i n v (k+1) 0:=by
 subst h;unfold KQ;rw[PE,List.any_append];simp[Qb]
def Pz(l:List Ent)(i n:Nat):Bool:=KQ l i n ((aA (l.getD i E0)).getD n P0) l.length 0
def EO(l:List Ent)(i n:Nat):List (Nat×Nat):=((List.range n).filter λk=>!Pz l i k).map λk=>(i,k)
def uM(l:List Ent)(x n:Nat):List (Nat×Nat):=((List.range x).flatMap λi=>EO l i (aA (l.getD i E0)).length)++EO l x n
def zu(l:List Ent):List (Nat×Nat):=uM l l.length 0
theorem ZA{l:List Ent}{x n:Nat}(h:(!Pz l x n)=true):uM l x (n+1)=uM l x n++[(x,n)]:=by
 unfold uM EO;rw[PE,JZ];simp[h]
theorem Zf{l:List Ent}{x n:Nat}(h:(!Pz l x n)=false):uM l x (n+1)=uM l x n:=by
 unfold uM EO;rw[PE,JZ];simp[h]
theorem UK{l:List Ent}{x n:Nat}(h:n=(aA (l.getD x E0)).length):uM l x n=uM l (x+1) 0:=by
 subst h;unfold uM;rw[PE,KC];simp[EO]
theorem Ht{l:List Ent}{i n:Nat}:(EO l i n).length<=n:=by
 unfold EO;rw[aG];have:=WZ (λk=>!Pz l i k) (List.range n)
 rwa [List.length_range]at this
theorem nI(e:Ent):(aA e).length<=2:=by have:=qV e;omega
theorem vP{l:List Ent}:∀(x:Nat) {n:Nat},(uM l x n).length<=2*x+n
 |0,n=>by have:=Ht (l:=l) (i:=0) (n:=n);unfold uM;simpa using this
 |x+1,n=>by
  have h1:=vP (l:=l) x (n:=(aA (l.getD x E0)).length);rw[UK rfl]at h1;have h2:uM l (x+1) n=uM l (x+1) 0++EO l (x+1) n:=by unfold uM;simp[EO]
  have h3:=Ht (l:=l) (i:=x+1) (n:=n);have h4:=nI (l.getD x E0);rw[h2,bF];omega
theorem Oc{l:List Ent}{x:Nat}(h:x<l.length):l.zipIdx.getD x N0=(l.getD x E0,x):=by
 simp[iI,h]
theorem Ig{l:List Ent}{i n:Nat}{v:P2}(hi:i<l.length):nH l.zipIdx (l.getD i E0).layer i n v=KQ l i n v l.length 0:=by
 unfold nH KQ;rw[Qk];simp only[List.range_zero,List.any_nil,EN];rw[vG,NG,NG]
 have key:∀k<l.length,metAt l.zipIdx (l.getD i E0).layer i n v k=Qb l i n v k:=λk hk=>by
  have hz:=Oc hk;unfold Qb;rcases iV (l.getD k E0)with hE|⟨a,b,hE⟩
  .rw[yQ (by rw[Qk];exact hk) (by rw[hz];exact hE),hE];rfl
  .rw[zI (by rw[Qk];exact hk) (by rw[hz];exact hE),hE,hz];simp only[bn,bG,PE,List.range_zero,mX,List.any_append,List.any_cons,List.any_nil,EN,Oo,hE,List.getD_cons_zero,List.getD_cons_succ,jr];cases eqS (l.getD k E0).layer (l.getD i E0).layer<;>simp
 constructor
 .rintro ⟨k,hk,h⟩;exact⟨k,hk,by rw[<-key k (by simpa using hk)];exact h⟩
 .rintro ⟨k,hk,h⟩;exact⟨k,hk,by rw[key k (by simpa using hk)];exact h⟩
end Go.Sw
