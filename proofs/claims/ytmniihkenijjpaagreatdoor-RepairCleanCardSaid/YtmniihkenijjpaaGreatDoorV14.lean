/-
  Rules of the abstract run, plain laws, and what functions answer, for the law RepairClean.
  Conditions: none.
-/
import Derived.Test.YtmniihkenijjpaaGreatDoorV13
import Derived.Lib.Itoa
import Derived.Lib.Walk
import Derived.Shelf.Strconv.Itoa1
import Derived.Lib.ItoaNum
import Derived.Lib.ItoaLen
import Derived.Lib.AppendStr
import Derived.Shelf.SlicesE.Clone
set_option linter.all false
namespace Go.Sw
open Go Go.RowKit
theorem laid_mem{P:Program}{w:World}:∀{l:List (String×DataW Unit)} {ps:List MemPlace},DataW.LaidVars P w l ps->∀x∈l,∃g t cs fuel p,P.globalNamed x.1=some g/\(P.globals[g]?).map (·.type)=some t/\w.var? P x.1=some cs/\DataW.trod (λ_=>()) P w 0 (λ_=>true) false fuel t cs.toList=some (x.2,p)
 |[],_,_,x,hx=>by cases hx
 |(n,d)::r,ps,h,x,hx=>by
  obtain⟨g,t,cs,fuel,p,q,h1,h2,h3,h4,h5,_⟩:=h
  rcases qh.1 hx with rfl|hx
  .exact⟨g,t,cs,fuel,p,h1,h2,h3,h4⟩
  .exact laid_mem h5 x hx
theorem tab_of{P:Program}{W:World}{l:List (String×DataW Unit)}{nm:String}{k:IntKind}{zs:List Int}{g:Nat}{t e:TypeId}(h:laidMet P l W)(hm:(nm,DataW.agg (zs.map λz => .lit (.int k z)))∈l)
 (hg:P.globalNamed nm=some g) (htg:(P.globals[g]?).map (·.type)=some t) (ht:P.underlying t=some (.array zs.length e)) (he:P.underlying e=some (.int k)) (ce:P.cellsOf e=1) (ct:P.cellsOf t=zs.length):Lib.TabIs P W nm k zs:=by
 obtain⟨ps,hl,_⟩:=h
 obtain⟨g0,t0,cs,fuel,p,hg0,ht0,hv,hd⟩:=laid_mem hl _ hm
 obtain rfl:=I5 (hg.symm.trans hg0)
 obtain rfl:=I5 (htg.symm.trans ht0)
 obtain⟨xs,m,_,ex,hlen,hxl,hel⟩:=DataW.trod_array ht hd
 have e1:zs.map (λz=>DataW.lit (.int k z))=xs.map (·.1):=by
  have:=(Prod.mk.inj ex).1
  exact DataW.agg.inj this
 unfold Lib.TabIs
 rw[hv]
 congr 1
 apply yc
 rw[List.toArray]
 show cs.toList=zs.map (Value.int k)
 apply List.ext_getElem
 .rw[hlen,ct,aG]
 .intro i h1 h2
  have hi:i<zs.length:=by simpa using h2
  have h3:=hel i hi
  rw[ce,Nat.mul_one]at h3
  have hx:xs[i]?=some xs[i]:=gG ω
  rw[hx]at h3
  obtain⟨n,a,b,_⟩:=DataW.trod_int he h3
  have h4:(zs.map (λz=>DataW.lit (H:=Unit) (.int k z)))[i]?=(xs.map (·.1))[i]?:=by rw[e1]
  rw[vJ,vJ,gG hi,hx,b]at h4
  simp at h4
  have h5:cs.toList[i]?=some (.int k n):=by
   have:((cs.toList.drop i).take 1)[0]?=some (.int k n):=by rw[a];rfl
   rw[xJ,if_pos ω,BH,ND]at this
   exact this
  rw[gG h1]at h5
  rw[I5 h5,List.getElem_map,h4]
theorem tab_keep{P:Program}{w w':World}{nm:String}{k:IntKind}{zs:List Int}(h:Lib.TabIs P w nm k zs)(hb:Below w.heap.size w w'):Lib.TabIs P w' nm k zs:=by
 unfold Lib.TabIs World.var? at h ⊢
 cases hg:P.globalNamed nm with
 |none=>rw[hg]at h;cases h
 |some g =>
  rw[hg]at h
  simp only[JC]at h ⊢
  have hl:g<w.heap.size:=by
   rcases yD g w.heap.size with h'|h'
   .exact h'
   .rw[Array.getElem?_eq_none h']at h;cases h
  rw[hb.block g hl]
  exact h
end Go.Sw
namespace Go.Sw
open Go Go.Lib
def kV:Nat->Nat->List UInt8
 |0,_=>[]
 |k+1,n=>kV k (n/10)++[UInt8.ofNat (48+n%10)]
theorem wW:∀(k n:Nat),(kV k n).length=k
 |0,_=>rfl
 |k+1,n=>by rw[kV,bD,wW k];rfl
theorem jE{n:Nat}(h:n<10):decDigits n=[UInt8.ofNat (48+n)]:=by rw[decDigits,dif_pos h]
theorem vO{n:Nat}(h:¬n<10):decDigits n=decDigits (n/10)++[UInt8.ofNat (48+n%10)]:=by rw[decDigits,dif_neg h]
theorem Gw(n:Nat):0<(decDigits n).length:=by rw[decDigits_length];exact nDigits_pos n
theorem Ik:∀(k a x:Nat),0<a->x<10^k->decDigits (a*10^k+x)=decDigits a++kV k x
 |0,a,x,ha,hx=>by
  have:x=0:=by simpa using hx
  subst this
  simp[kV]
 |k+1,a,x,ha,hx=>by
  have hp:10^(k+1)=10^k*10:=rP 10 k
  have h1:0<10^k:=Nat.pow_pos ψ
  have e:a*10^(k+1)+x=(a*10^k)*10+x:=by rw[hp,Nu]
  have hge:¬(a*10^(k+1)+x)<10:=by
   have:=Nat.mul_pos ha h1
   omega
  have hd:(a*10^(k+1)+x)/10=a*10^k+x/10:=ω
  have hm:(a*10^(k+1)+x)%10=x%10:=ω
  rw[vO hge,hd,hm,Ik k a (x/10) ha ω,kV,jR]
theorem uX:∀(k n:Nat),0<k->n<10^k->kV k n=List.replicate (k-nDigits n) 48++decDigits n
 |0,n,hk,_=>absurd hk ψ
 |1,n,_,h=>by
  have h:n<10:=by simpa using h
  rw[nDigits_small h,jE h]
  simp[kV,G8 h]
 |k+2,n,_,h=>by
  have hp:10^(k+2)=10^(k+1)*10:=rP 10 (k+1)
  rw[kV,uX (k+1) (n/10) ω ω]
  by_cases h10:n<10
  .have h0:n/10=0:=ω
   rw[h0,nDigits_small h10,nDigits_small (show 0<10 by decide),jE h10,jE (show 0<10 by decide),G8 h10]
   rw[show k+2-1=(k+1-1)+1 by omega,List.replicate_succ']
   rfl
  .rw[nDigits_big h10,vO h10,show k+2-(nDigits (n/10)+1)=k+1-nDigits (n/10) by omega,jR]
theorem qx{k n:Nat}(hk:0<k)(h:n<10^k):nDigits n<=k:=by
 have h1:=wW k n
 rw[uX k n hk h,bD,qM,decDigits_length]at h1
 omega
theorem Gs:∀(j k n:Nat),kV (k+j) n=kV k (n/10^j)++kV j n
 |0,k,n=>by simp[kV]
 |j+1,k,n=>by
  show kV (k+j+1) n=_
  rw[kV,Gs j k (n/10),kV,XW,<-Nat.pow_succ',jR]
theorem LK:∀(n:Nat),0<n->∃d r,decDigits n=d::r/\d≠48
 |n,hn=>by
  induction n using Nat.strongRecOn with
  |_ n ih =>
   by_cases h:n<10
   .refine⟨_,_,jE h,λe=>?_⟩
    have:n=1\/n=2\/n=3\/n=4\/n=5\/n=6\/n=7\/n=8\/n=9:=ω
    rcases this with rfl|rfl|rfl|rfl|rfl|rfl|rfl|rfl|rfl<;>revert e<;>decide
   .obtain⟨d,r,h1,h2⟩:=ih (n/10) ω ω
    exact⟨d,r++[UInt8.ofNat (48+n%10)],by rw[vO h,h1];rfl,h2⟩
def nM(n:Nat):ByteArray:=⟨(decDigits n).toArray⟩
def jg(n:Int):ByteArray:=⟨((if n<0 then[45]else[])++decDigits n.natAbs).toArray⟩
def BM(n:Nat):List Nat:=(decDigits n).map λb=>b.toNat
theorem MW{k:Nat}(h:k<10):(UInt8.ofNat (48+k)).toNat=48+k:=by
 have:k=0\/k=1\/k=2\/k=3\/k=4\/k=5\/k=6\/k=7\/k=8\/k=9:=ω
 rcases this with rfl|rfl|rfl|rfl|rfl|rfl|rfl|rfl|rfl|rfl<;>rfl
theorem sJ{n:Nat}(h:n<10):BM n=[48+n]:=by unfold BM;rw[jE h,bQ,MW h];rfl
theorem Hg{n:Nat}(h:¬n<10):BM n=BM (n/10)++[48+n%10]:=by
 unfold BM;rw[vO h,bG,bQ,MW (mQ _ ψ)];rfl
theorem aaJ(n:Nat):uH (BM n)=n:=by
 induction n using Nat.strongRecOn with
 |_ n ih =>
  by_cases h:n<10
  .rw[sJ h];simp[uH]
  .rw[Hg h,Jt,ih (n/10) ω];omega
theorem WB(n:Nat):∀c∈BM n,48<=c/\c<=57:=by
 induction n using Nat.strongRecOn with
 |_ n ih =>
  intro c hc
  by_cases h:n<10
  .rw[sJ h]at hc;simp at hc;omega
  .rw[Hg h]at hc
   rcases jF.1 hc with g|g
   .exact ih (n/10) ω c g
   .simp at g;omega
theorem Qj(n:Nat):(BM n).length=nDigits n:=by unfold BM;rw[aG,decDigits_length]
theorem O1{n:Nat}(h:0<n):(BM n).getD 0 0≠48:=by
 obtain⟨d,r,h1,h2⟩:=LK n h
 unfold BM
 rw[h1]
 show d.toNat≠48
 intro e
 exact h2 (UInt8.toNat_inj.1 (by rw[e];rfl))
theorem MP(l:List UInt8):kL ⟨l.toArray⟩=l.map λb=>b.toNat:=rfl
theorem qY(n:Int):kL (jg n)=(if n<0 then[45]else[])++BM n.natAbs:=by
 unfold jg
 rw[MP,bG]
 congr 1
 split<;>rfl
theorem VW(n:Nat):(BM n).take 1≠[45]:=by
 intro e
 have h:45∈BM n:=Tf (i:=1) (by rw[e];exact tZ.2 rfl)
 have:=(WB n 45 h).1
 omega
theorem sW(n:Int):(jg n).size=(if n<0 then 1 else 0)+nDigits n.natAbs:=by
 rw[<-je,qY,bD,Qj]
 congr 1
 split<;>rfl
theorem Qs(a b:ByteArray):kL (a++b)=kL a++kL b:=by
 unfold kL
 rw[ByteArray.data_append,Array.toList_append,bG]
theorem Bf:∀(i m:Nat),(lim m).getD i 0=m/1000000000^i%1000000000
 |0,m=>by
  by_cases h:m=0
  .subst h;rw[dI];rfl
  .rw[iG h];simp
 |i+1,m=>by
  by_cases h:m=0
  .subst h;simp[dI]
  .rw[iG h,List.getD_cons_succ,Bf i,XW,<-Nat.pow_succ']
theorem Ll:∀(i m:Nat),i<(lim m).length->0<m/1000000000^i
 |0,m,h=>by
  have:m≠0:=λe=>by subst e;rw[dI]at h;exact absurd h ψ
  simp;omega
 |i+1,m,h=>by
  have:m≠0:=λe=>by subst e;rw[dI]at h;exact absurd h η
  rw[iG this,aZ]at h
  have:=Ll i (m/1000000000) ω
  rwa [XW,<-Nat.pow_succ']at this
theorem vM(m:Nat):m<1000000000^(lim m).length:=by
 have:=dL (lim m) (aI m)
 rwa [aB]at this
theorem WQ{i m:Nat}(h:i<(lim m).length):(lim m)[i]?=some (m/1000000000^i%1000000000):=by
 have:=Bf i m
 rw[iC,gG h]at this
 rw[gG h]
 exact congrArg some this
theorem BU{m:Nat}(h:0<(lim m).length):m/1000000000^((lim m).length-1)%1000000000=m/1000000000^((lim m).length-1):=by
 apply G8
 apply Nat.div_lt_of_lt_mul
 have:=vM m
 rwa [<-rP,show((lim m).length-1).succ=(lim m).length by omega]
theorem Df{m i:Nat}(h:i+1<(lim m).length):
 decDigits (m/1000000000^i)=decDigits (m/1000000000^(i+1))++List.replicate (9-nDigits (m/1000000000^i%1000000000)) 48++decDigits (m/1000000000^i%1000000000):=by
 have h1:=Ll (i+1) m h
 have hx:m/1000000000^i%1000000000<10^9:=mQ _ ψ
 have e:m/1000000000^(i+1)=m/1000000000^i/1000000000:=by rw[XW,rP]
 rw[jR,<-uX 9 _ ψ hx,<-Ik 9 _ _ h1 hx,e]
 congr 1
 have:=Nat.div_add_mod (m/1000000000^i) 1000000000
 omega
theorem CZ{m i:Nat}(h:0<(lim m).length):(decDigits (m/1000000000^i)).length<=9*(lim m).length:=by
 rw[decDigits_length]
 apply qx ω
 refine Nat.lt_of_le_of_lt (EZ _ _) ?_
 rw[Nat.pow_mul]
 exact vM m
theorem vZ{x:Nat}(h:x<1000000000):1<=nDigits x/\nDigits x<=9:=⟨nDigits_pos x,qx ψ h⟩
def bv(l:List UInt8):List Value:=l.map λb => .int .u8 (b.toNat:Int)
theorem OA(l:List UInt8):(bv l).length=l.length:=by unfold bv;simp
theorem sV(a b:List UInt8):bv (a++b)=bv a++bv b:=by unfold bv;rw[bG]
theorem NG(l:List UInt8):strCells ⟨l.toArray⟩=bv l:=rfl
theorem oP(n:Nat):(nM n).size=nDigits n:=by
 show(decDigits n).toArray.size=_
 rw[IL,decDigits_length]
end Go.Sw
namespace Go.Sw
open Go Go.Lib Go.RowKit
def sD(d m:Nat):ByteArray:=⟨(kV d m).toArray⟩
def Ez(j m:Nat):ByteArray:=⟨(List.replicate j 48++decDigits m).toArray⟩
theorem IZ(d m:Nat):(sD d m).size=d:=by
 show(kV d m).toArray.size=d
 rw[IL,wW]
theorem Ir{k:Nat}(h:k<10):Utf8.encode ((48+k:Nat):Int)=⟨#[UInt8.ofNat (48+k)]⟩:=by
 have:k=0\/k=1\/k=2\/k=3\/k=4\/k=5\/k=6\/k=7\/k=8\/k=9:=ω
 rcases this with rfl|rfl|rfl|rfl|rfl|rfl|rfl|rfl|rfl|rfl<;>decide +kernel
theorem KL{m x k:Nat}(hk:k<9):m/1000000000^x%1000000000/10^k%10=m/10^(9*x+k)%10:=by
 have e:m/10^(9*x+k)=m/1000000000^x/10^k:=by rw[XW,Nat.pow_add,Nat.pow_mul]
 rw[e]
 generalize m/1000000000^x=a
 have h9:(1000000000:Nat)=10^k*10^(9-k):=by rw[<-Nat.pow_add,show k+(9-k)=9 by omega]
 rw[h9,Nat.mod_mul_right_div_self]
 exact Nat.mod_mod_of_dvd _ ⟨10^(8-k),by rw[<-Nat.pow_succ',show(8-k).succ=9-k by omega]⟩
theorem NK(d m:Nat):kV (d+1) m=UInt8.ofNat (48+m/10^d%10)::kV d m:=by
 rw[Nat.add_comm d 1,Gs d 1 m];rfl
theorem En{m x k:Nat}(hk:k<9):IntKind.i32.wrap (IntKind.u32.wrap (48+(((m/1000000000^x%1000000000/10^k:Nat):Int)).tmod 10))=((48+m/10^(9*x+k)%10:Nat):Int):=by
 rw[<-KL hk]
 generalize m/1000000000^x%1000000000/10^k=q
 rw[Int.tmod_eq_emod_of_nonneg (Int.natCast_nonneg q),IntKind.wrap_u32,IntKind.wrap_i32]
 omega
theorem Rz{m x k:Nat}(hk:k<9):
 some (AV.c (Cell.v (.string (Utf8.encode (IntKind.i32.wrap (IntKind.u32.wrap (48+(((m/1000000000^x%1000000000/10^k:Nat):Int)).tmod 10)))++sD (9*x+k) m))))=some (AV.str (sD (9*x+(k+1)) m)):=by
 have:Utf8.encode (IntKind.i32.wrap (IntKind.u32.wrap (48+(((m/1000000000^x%1000000000/10^k:Nat):Int)).tmod 10)))++sD (9*x+k) m=sD (9*x+(k+1)) m:=by
  rw[En hk,Ir (mQ _ ψ)]
  unfold sD
  rw[<-Nat.add_assoc,NK,ByteArray.ext_iff,ByteArray.data_append]
  simp
 rw[this]
theorem VA{m x k:Nat}(hk:k<9):(Utf8.encode (IntKind.i32.wrap (IntKind.u32.wrap (48+(((m/1000000000^x%1000000000/10^k:Nat):Int)).tmod 10)))).size=1:=by
 rw[En hk,Ir (mQ _ ψ)];rfl
theorem PW{m x k:Nat}:IntKind.u32.wrap (((m/1000000000^x%1000000000/10^k:Nat):Int).tdiv 10)=((m/1000000000^x%1000000000/10^(k+1):Nat):Int):=by
 have h1:m/1000000000^x%1000000000/10^k<=m/1000000000^x%1000000000:=EZ _ _
 have h2:=mQ (m/1000000000^x) (show 0<1000000000 by decide)
 rw[rP,<-XW]
 generalize m/1000000000^x%1000000000/10^k=q at h1 ⊢
 rw[Int.tdiv_eq_ediv_of_nonneg (Int.natCast_nonneg q),IntKind.wrap_u32]
 omega
theorem QH(m x:Nat):some (AV.c (Cell.v (u32 ((lim m).getD x 0))))=some (AV.int .u32 ((m/1000000000^x%1000000000/10^0:Nat):Int)):=by
 rw[Bf,Nat.pow_zero,Nat.div_one];rfl
theorem Rx{m x k:Nat}(h1:k<=9)(h2:¬(k:Int)<9):some (AV.str (sD (9*x+k) m))=some (AV.str (sD (9*(x+1)) m)):=by rw[show 9*x+k=9*(x+1) by omega]
theorem QT{m:Nat}(h:0<(lim m).length):sD (9*(lim m).length) m=Ez (9*(lim m).length-nDigits m) m:=by
 unfold sD Ez
 rw[uX _ _ ω (by rw[Nat.pow_mul];exact vM m)]
theorem QD{m x:Nat}(h:0<(lim m).length)(h1:x<=(lim m).length)(h2:¬(x:Int)<((lim m).length:Nat)):some (AV.str (sD (9*x) m))=some (AV.str (Ez (9*(lim m).length-nDigits m) m)):=by rw[show x=(lim m).length by omega,QT h]
theorem Cc(j m:Nat):(Ez j m).size=j+nDigits m:=by
 show(List.replicate j 48++decDigits m).toArray.size=_
 rw[IL,bD,qM,decDigits_length]
theorem tJ(j m:Nat):kL (Ez j m)=List.replicate j 48++BM m:=by
 unfold Ez
 rw[MP,bG,List.map_replicate];rfl
theorem Tj{j m:Nat}(hm:0<m)(h:¬(((kL (Ez j m)).getD 0 0:Nat):Int)=48):j=0:=by
 cases j with
 |zero=>rfl
 |succ j=>rw[tJ,List.replicate_succ]at h;exact absurd rfl h
theorem acj{j m:Nat}(hm:0<m)(h:(((kL (Ez j m)).getD 0 0:Nat):Int)=48):0<j:=by
 cases j with
 |zero =>
  rw[tJ,List.replicate_zero,mX]at h
  exact absurd ω (O1 hm)
 |succ j=>omega
theorem Vl{j m:Nat}(h:0<j):(Ez j m).extract 1 (Ez j m).size=Ez (j-1) m:=by
 apply qV
 rw[RJ,show(Ez j m).size=(kL (Ez j m)).length from(je _).symm,x9,tJ,tJ]
 cases j with
 |zero=>exact absurd h ψ
 |succ j=>rfl
theorem LZ{n:Int}(h:n<0):(⟨#[45]⟩:ByteArray)++Ez 0 n.natAbs=jg n:=by
 apply qV
 rw[Qs,tJ,qY,if_pos h];rfl
theorem L6{n:Int}(h:¬n<0):Ez 0 n.natAbs=jg n:=by
 apply qV
 rw[tJ,qY,if_neg h];rfl
theorem Xe:(⟨#[48]⟩:ByteArray)=jg 0:=by
 apply qV
 rw[qY,show(0:Int).natAbs=0 from rfl,sJ ψ];rfl
theorem Np{n:Int}{k:Nat}(h:sz n<=k)(hk:0<k):nDigits n.natAbs<=9*k:=by
 apply qx ω
 refine Au (vM n.natAbs) ?_
 rw[Nat.pow_mul]
 exact BP ψ h
theorem Sr{n:Int}{k:Nat}(h:sz n<=k)(hk:0<k):(jg n).size<=9*k+1:=by
 have:=Np h hk
 rw[sW]
 split<;>omega
end Go.Sw
namespace Go.Sw
open Go
structure EntR where
 kind:Int
 layer:ByteArray
 pts:List (Rq×Rq)
 rad:Rq
structure LayD where
 name:ByteArray
 kind:Int
 depth:Int
@[reducible] def JI(r:Rq):List Cell:=[.v (.bool r.a),lmc r.l,.v (.bool r.b),lmc r.m]
@[reducible] def kK(p:Rq × Rq):List Cell:=[.v (.bool p.1.a),lmc p.1.l,.v (.bool p.1.b),lmc p.1.m,.v (.bool p.2.a),lmc p.2.l,.v (.bool p.2.b),lmc p.2.m]
@[reducible] def bH(e:EntR):List Cell:=[.v (.int .i64 e.kind),.v (.string e.layer),.sl 8 (e.pts.map kK),.v (.bool e.rad.a),lmc e.rad.l,.v (.bool e.rad.b),lmc e.rad.m]
@[reducible] def aW(l:LayD):List Cell:=[.v (.string l.name),.v (.int .i64 l.kind),.v (.int .i64 l.depth)]
def vR(r:Rq):Bool:=fU r.a r.l r.b r.m
def qR(r:Rq):Rat:=((bZ r.a (val r.l):Int):Rat)/((bZ r.b (val r.m):Int):Rat)
def Aj(r:Rq):Prop:=r.l.length<=6/\r.m.length<=6
theorem Oz(q:Rat):((q.num:Int):Rat)/((q.den:Int):Rat)=q:=by
 have h:=Rat.num_divInt_den q
 rwa [Rat.divInt_eq_div]at h
theorem OG(q:Rat):qR (jD q)=q:=by
 unfold qR jD
 simp only
 rw[aB,vG,aB,vG,Oz]
theorem qU{r:Rq}(h:vR r=true):r=jD (qR r):=by
 obtain⟨q,h1,h2,h3,h4⟩:=Jo h
 obtain⟨a,l,b,m⟩:=r
 simp only at h1 h2 h3 h4
 subst h1 h2 h3 h4
 exact(congrArg jD (OG q)).symm
theorem xM{q:Rat}(h:Aj (jD q)):rz q<=12:=by
 obtain⟨h1,h2⟩:=h
 have h1':(lim q.num.natAbs).length<=6:=h1
 have h2':(lim (q.den:Int).natAbs).length<=6:=h2
 unfold rz sz
 omega
@[reducible] def zi:Rat:=((1:Int):Rat) / ((1000:Int):Rat)
def Pv(a:Rat):Option Nat:=(List.range 31).find? λn=>decide (10^n%a.den=0)
def CG(q:Rat):Bool:=decide (¬((10000000:Int):Rat)<q)&&(decide (¬q < -((10000000:Int):Rat))&&(Pv (q*zi)).isSome)
def eY(r:Rq):Bool:=vR r&&CG (qR r)
def jB(e:EntR):Bool:=decide (e.kind=1/\e.pts.length=2\/e.kind=2/\e.pts.length=3\/e.kind=3/\e.pts.length=1)&&(e.pts.all (λp=>eY p.1&&eY p.2)&&(decide (¬e.kind=3) ||(eY e.rad&&decide (0<qR e.rad))))
def kF(e:EntR):Prop:=(∀p∈e.pts,Aj p.1/\Aj p.2)/\Aj e.rad/\e.pts.length<=5/\e.layer.size<=60
def Tn(c:Nat):Bool:=decide (97<=c/\c<=122)||decide (65<=c/\c<=90)
def Zu(c:Nat):Bool:=decide (48<=c/\c<=57)
def J3(c:Nat):Bool:=Tn c ||(Zu c ||(decide (c=95)||decide (c=45)))
def rnN(s:ByteArray):Nat:=((kL s).takeWhile J3).length
def zX(s:ByteArray):Bool:=decide (0<s.size)&&(decide (s.size<=24)&&(Tn ((kL s).getD 0 0)&&decide (rnN s=s.size)))
theorem TF(p:Nat->Bool):∀(l:List Nat) (x:Nat),x<=l.length->(∀j<x,p (l.getD j 0)=true)->(x<l.length->p (l.getD x 0)=false)->(l.takeWhile p).length=x
 |[],x,h,_,_=>by simp at h;subst h;rfl
 |c::r,0,_,_,h2=>by
  have:=h2 η
  simp only[List.getD_cons_zero]at this
  simp[List.takeWhile_cons,this]
 |c::r,x+1,h,h1,h2=>by
  have h3:=h1 0 ω
  simp only[List.getD_cons_zero]at h3
  rw[List.takeWhile_cons,if_pos h3,aZ]
  rw[TF p r x (by simpa using h) (λj hj=>by simpa using h1 (j+1) ω) (λhx=>by simpa using h2 (by simpa using hx))]
theorem OW{s:ByteArray}{x:Nat}(h:x<=s.size)(h1:∀j<x,J3 ((kL s).getD j 0)=true)(h2:x<s.size->J3 ((kL s).getD x 0)=false):rnN s=x :=
 TF J3 (kL s) x (by rw[je];exact h) h1 (λhx=>h2 (by rwa [je]at hx))
theorem NT{s:ByteArray}(h:(!(s.toList ==(ByteArray.mk #[]).toList))=true):0<s.size:=by
 rw[oM]at h
 have h1:¬kL s=kL (ByteArray.mk #[]):=by simpa using h
 refine Decidable.byContradiction λhn=>h1 ?_
 have:(kL s).length=0:=by rw[je];omega
 rw[BG this];rfl
theorem SV{s:ByteArray}(h:(!(s.toList ==(ByteArray.mk #[]).toList))=false):s.size=0:=by
 rw[oM]at h
 have h1:kL s=kL (ByteArray.mk #[]):=by simpa using h
 rw[<-je,h1];rfl
theorem Wq{s:ByteArray}(h:s.size=0\/¬s.size<=24\/Tn ((kL s).getD 0 0)=false):zX s=false:=by
 unfold zX
 rcases h with h|h|h
 .rw[h];rfl
 .rw[decide_eq_false h];simp
 .rw[h];simp
theorem WI{s:ByteArray}(h1:0<s.size)(h2:s.size<=24)(h3:Tn ((kL s).getD 0 0)=true):zX s=decide (rnN s=s.size):=by
 unfold zX
 rw[decide_eq_true h1,decide_eq_true h2,h3]
 simp
def xI(l:LayD):Bool:=zX l.name&&decide (((l.kind=1\/l.kind=3)/\1<=l.depth/\l.depth<=10000000)\/((l.kind=2\/l.kind=4)/\l.depth=0))
def FI{α:Type}(n:Nat)(f:Nat->Option α):Option α:=(List.range n).findSome? f
theorem oq{α:Type}{n:Nat}{f:Nat->Option α}(h:∀j<n,f j=none):FI n f=none:=by
 unfold FI
 rw[List.findSome?_eq_none_iff]
 intro x hx
 exact h x (by simpa using hx)
theorem rM{α:Type}{f:Nat->Option α}{x:Nat}{r:α}:∀{n:Nat},x<n->(∀j<x,f j=none)->f x=some r->FI n f=some r
 |0,hx,_,_=>by omega
 |n+1,hx,h,hr=>by
  unfold FI
  rw[Pn,List.findSome?_append]
  rcases yD x n with h1|h1
  .have:=rM (n:=n) h1 h hr
   unfold FI at this
   rw[this];rfl
  .have:x=n:=ω
   subst this
   have h2:=oq h
   unfold FI at h2
   rw[h2,List.findSome?_cons,hr];rfl
theorem bT{p:Nat->Prop}{x:Nat}(h:∀j<x,p j)(h1:p x):∀j<x+1,p j:=λj hj=>by
 rcases yD j x with g|g
 .exact h j g
 .have:j=x:=ω
  subst this
  exact h1
def L0:LayD:=⟨⟨#[]⟩,0,0⟩
def qg:EntR:=⟨0,⟨#[]⟩,[],⟨false,[],false,[]⟩⟩
def mP(ls:List LayD)(s:ByteArray):Int:=match FI ls.length (λi=>if eqS (ls.getD i L0).name s=true then some i else none)with
 |some i=>((i:Nat):Int)
 |none=>-1
theorem vW{ls:List LayD}{s:ByteArray}{x:Nat}(hx:x<ls.length)(h:∀j<x,eqS (ls.getD j L0).name s=false)(h1:eqS (ls.getD x L0).name s=true):mP ls s=(x:Nat):=by
 unfold mP
 rw[rM (x:=x) (r:=x) hx (λj hj=>by rw[h j hj];rfl) (by rw[h1];rfl)]
theorem Lr{ls:List LayD}{s:ByteArray}(h:∀j<ls.length,eqS (ls.getD j L0).name s=false):mP ls s = -1:=by
 unfold mP
 rw[oq (λj hj=>by rw[h j hj];rfl)]
theorem yZ(ls:List LayD)(s:ByteArray):∀n≤ls.length,(∀j<n,eqS (ls.getD j L0).name s=false)\/∃x<n,(∀j<x,eqS (ls.getD j L0).name s=false)/\eqS (ls.getD x L0).name s=true
 |0,_ => .inl λj hj=>absurd hj (yQ _)
 |n+1,h=>by
  rcases yZ ls s n ω with g|⟨x,g1,g2,g3⟩
  .cases e:eqS (ls.getD n L0).name s with
   |false=>exact .inl (bT g e)
   |true=>exact .inr ⟨n,ω,g,e⟩
  .exact .inr ⟨x,ω,g2,g3⟩
def lu(ls:List LayD)(i:Nat):Option Int:=if xI (ls.getD i L0)=false then some 1 else if mP ls (ls.getD i L0).name<i then some 5 else none
def pF(ls:List LayD):Int:=if xI (ls.getD (ls.length-1) L0)=false then 1 else if mP ls (ls.getD (ls.length-1) L0).name<((ls.length-1:Nat):Int)then 5 else 0
theorem getD_take'{α:Type}{l:List α}{d:α}{i n:Nat}(h:i<n):(l.take n).getD i d=l.getD i d:=by
 simp[iC,h,xJ]
theorem Lu{ls:List LayD}{i:Nat}(h:i<ls.length):mP (ls.take (i+1)) (ls.getD i L0).name=mP ls (ls.getD i L0).name:=by
 have hl:(ls.take (i+1)).length=i+1:=by simp;omega
 have hself:eqS (ls.getD i L0).name (ls.getD i L0).name=true:=by unfold eqS;simp
 rcases yZ ls (ls.getD i L0).name (i+1) ω with g|⟨x,g1,g2,g3⟩
 .have:=g i ω
  rw[hself]at this;cases this
 .rw[vW (x:=x) ω g2 g3]
  exact vW ω (λj hj=>by rw[getD_take' ω];exact g2 j hj) (by rw[getD_take' g1];exact g3)
theorem EY{ls:List LayD}{i:Nat}(h:i<ls.length):pF (ls.take (i+1))=(lu ls i).getD 0:=by
 have hl:(ls.take (i+1)).length=i+1:=by simp;omega
 unfold pF lu
 rw[hl,show i+1-1=i by omega,getD_take' ω,Lu h]
 split
 .rfl
 .split<;>rfl
def mJ(ls:List LayD)(es:List EntR)(i:Nat):Option Int:=if mP ls (es.getD i qg).layer<0 then some 4 else if jB (es.getD i qg)=false then some 1 else none
def dS(ls:List LayD)(es:List EntR):Int :=
 if 20<ls.length\/200<es.length then 3
 else match FI ls.length (lu ls)with
  |some r=>r
  |none=>match FI es.length (mJ ls es)with
   |some r=>r
   |none=>0
theorem IJ{ls:List LayD}{es:List EntR}(h:20<ls.length\/200<es.length):dS ls es=3:=by unfold dS;rw[if_pos h]
theorem Ar{ls:List LayD}{es:List EntR}{x:Nat}{r:Int}(h:¬(20<ls.length\/200<es.length))(hx:x<ls.length)(h1:∀j<x,lu ls j=none)(h2:lu ls x=some r):dS ls es=r:=by
 unfold dS
 rw[if_neg h,rM hx h1 h2]
theorem zV{ls:List LayD}{es:List EntR}{x:Nat}{r:Int}(h:¬(20<ls.length\/200<es.length))(h0:∀j<ls.length,lu ls j=none)(hx:x<es.length)(h1:∀j<x,mJ ls es j=none)(h2:mJ ls es x=some r):dS ls es=r:=by
 unfold dS
 rw[if_neg h,oq h0]
 simp only
 rw[rM hx h1 h2]
theorem OO{ls:List LayD}{es:List EntR}(h:¬(20<ls.length\/200<es.length))(h0:∀j<ls.length,lu ls j=none)(h1:∀j<es.length,mJ ls es j=none):dS ls es=0:=by
 unfold dS
 rw[if_neg h,oq h0]
 simp only
 rw[oq h1]
def okV(e:Ent):Prop:=(e.kind=1/\e.pts.length=2\/e.kind=2/\e.pts.length=3\/e.kind=3/\e.pts.length=1/\∃q:Rat,0<q/\rz q<=12/\e.rad=jD q)/\RS e
@[reducible] def dM(e:Ent):EntR:=⟨e.kind,e.layer,e.pts.map λp=>(jD p.1,jD p.2),e.rad⟩
theorem OU(e:Ent):bH (dM e)=aN e:=by
 unfold bH dM aN
 simp only[List.map_map]
 rfl
theorem SI{e:EntR}(hs:kF e)(h:jB e=true):∃x:Ent,e=dM x/\okV x:=by
 obtain⟨kd,ly,pts,rd⟩:=e
 obtain⟨s1,s2,s3,s4⟩:=hs
 unfold jB at h
 simp only[bY,decide_eq_true_eq,jl]at h
 obtain⟨h1,h2,h3⟩:=h
 simp only at s1 s2 s3 s4 h1 h2 h3
 have hp:∀p∈pts,p=(jD (qR p.1),jD (qR p.2)):=λp hp=>by
  obtain⟨a1,a2⟩:=h2 p hp
  unfold eY at a1 a2
  rw[bY]at a1 a2
  exact Prod.ext (qU a1.1) (qU a2.1)
 have he:(pts.map λp=>(qR p.1,qR p.2)).map (λp:P2=>(jD p.1,jD p.2))=pts:=by
  rw[List.map_map]
  exact(List.map_congr_left (λp hp'=>(hp p hp').symm)).trans (List.map_id pts)
 refine⟨⟨kd,ly,pts.map λp=>(qR p.1,qR p.2),rd⟩, ?_, ?_, ?_, ?_, ?_⟩
 .unfold dM
  simp only
  rw[he]
 .simp only[aG]
  rcases h1 with g|g|g
  .exact .inl g
  .exact .inr (.inl g)
  .refine .inr (.inr ⟨g.1,g.2,qR rd, ?_⟩)
   rcases Bool.or_eq_true_iff.1 h3 with f|f
   .rw[decide_eq_true_eq]at f;exact absurd g.1 f
   .rw[bY,decide_eq_true_eq]at f
    have f1:=f.1
    unfold eY at f1
    rw[bY]at f1
    have e1:=qU f1.1
    exact⟨f.2,xM (e1▸s2),e1⟩
 .intro p hp'
  obtain⟨u,hu,rfl⟩:=dW.1 hp'
  have e1:=hp u hu
  have e2:=s1 u hu
  exact⟨xM (by have:=e2.1;rw[e1]at this;exact this),xM (by have:=e2.2;rw[e1]at this;exact this)⟩
 .show ly.size<=1000
  omega
 .simp only[aG]
  omega
theorem EM{α:Type}{n:Nat}{f:Nat->Option α}(h:FI n f=none):∀j<n,f j=none:=by
 unfold FI at h
 rw[List.findSome?_eq_none_iff]at h
 exactλj hj=>h j (by simpa using hj)
theorem Fq{α:Type}{n:Nat}{f:Nat->Option α}{r:α}(h:FI n f=some r):∃j<n,f j=some r:=by
 unfold FI at h
 obtain⟨j,h1,h2⟩:=List.exists_of_findSome?_eq_some h
 exact⟨j,by simpa using h1,h2⟩
theorem aas{ls:List LayD}{es:List EntR}(h:dS ls es=0):ls.length<=20/\es.length<=200/\(∀j<ls.length,lu ls j=none)/\∀j<es.length,mJ ls es j=none:=by
 unfold dS at h
 split at h
 .cases h
 .rename_i g
  split at h
  .rename_i r e
   obtain⟨j,_,h2⟩:=Fq e
   subst h
   unfold lu at h2
   split at h2
   .cases h2
   .split at h2<;>cases h2
  .rename_i e
   split at h
   .rename_i r e'
    obtain⟨j,_,h2⟩:=Fq e'
    subst h
    unfold mJ at h2
    split at h2
    .cases h2
    .split at h2<;>cases h2
   .rename_i e'
    exact⟨ω,ω,EM e,EM e'⟩
theorem LV{ls:List LayD}{es:List EntR}(hs:∀e∈es,kF e)(h:dS ls es=0):∃xs:List Ent,es=xs.map dM/\∀x∈xs,okV x:=by
 have h4:=(aas h).2.2.2
 have key:∀e∈es,∃x:Ent,e=dM x/\okV x:=λe he=>by
  obtain⟨j,hj,rfl⟩:=Ew he
  refine SI (hs _ he) ?_
  have h5:=h4 j hj
  unfold mJ at h5
  have e1:es.getD j qg=es[j]:=by simp[iC,hj]
  rw[e1]at h5
  split at h5
  .cases h5
  .split at h5
   .cases h5
   .rename_i g;simpa using g
 clear h h4 hs
 induction es with
 |nil=>exact⟨[],rfl,λx hx=>by simp at hx⟩
 |cons e r ih =>
  obtain⟨x,h1,h2⟩:=key e η
  obtain⟨xs,h3,h4⟩:=ih (λe he=>key e (by simp[he]))
  refine⟨x::xs,by rw[bQ,<-h1,<-h3],λy hy=>?_⟩
  rcases qh.1 hy with rfl|hy
  .exact h2
  .exact h4 y hy
theorem zip_fst{l:List Ent}{x:Ent×Nat}(h:x∈l.zipIdx):x.1∈l:=by
 have:=List.mem_map_of_mem (f:=(·.1)) h
 simpa using this
theorem J6{l:List (Ent×Nat)}{x:Ent×Nat}(h:x∈xE l):x∈l:=by
 unfold xE at h
 obtain⟨y,h1,rfl⟩:=dW.1 h
 have h2:=(xZ.1 h1).1
 exact(List.of_mem_zip h2).1
end Go.Sw
namespace Go.Sw
open Go Go.Lib
@[reducible] def p10(n:Nat):Int:=((10 ^ n:Nat):Int)
theorem xR(n:Nat):p10 n*10=p10 (n+1):=by unfold p10;rw[rP];omega
theorem wG{n:Nat}(h:n<=31):sz (p10 n)<=4:=by
 show(lim (p10 n).natAbs).length<=4
 refine gy ?_
 have h1:10^n<=10^31:=BP ψ h
 show(p10 n).natAbs<_
 unfold p10
 rw[wJ]
 have h2:(10:Nat)^31<1000000000^4:=by decide +kernel
 omega
theorem A8{n:Nat}(h:n<=31):rz ((p10 n:Int):Rat)<=8:=by
 have h1:=gZ (p10 n)
 have h2:=wG h
 omega
theorem QZ(n:Nat):((p10 n:Int):Rat)*((10:Int):Rat)=((p10 (n+1):Int):Rat):=by
 rw[<-BI,xR]
theorem den_mul(a:Rat)(k:Nat):(a*(((k:Nat):Int):Rat)).den=1↔k%a.den=0:=by
 have h0:=iP a
 have hne:=iL a
 constructor
 .intro h
  have h1:=Oz (a*(((k:Nat):Int):Rat))
  rw[h]at h1
  have h2:(((a*(((k:Nat):Int):Rat)).num:Int):Rat)=a*(((k:Nat):Int):Rat):=by
   generalize(((a*(((k:Nat):Int):Rat)).num:Int):Rat)=m at h1 ⊢
   generalize a*(((k:Nat):Int):Rat)=r at h1 ⊢
   have:(((1:Nat):Int):Rat)=1:=rfl
   rw[this]at h1
   grind
  generalize(a*(((k:Nat):Int):Rat)).num=m at h2
  have h3:((m*(a.den:Int):Int):Rat)=((a.num*(k:Int):Int):Rat):=by
   rw[BI,BI,h2,h0]
   generalize(((k:Nat):Int):Rat)=K
   generalize(((a.den:Nat):Int):Rat)=D
   grind
  have h4:=Rat.intCast_inj.1 h3
  have h5:a.den ∣ a.num.natAbs*k:=by
   have:=congrArg Int.natAbs h4
   rw[Int.natAbs_mul,Int.natAbs_mul,wJ,wJ]at this
   exact⟨m.natAbs,by rw[<-this,xY]⟩
  have h6:a.den ∣ k:=(Nat.Coprime.symm a.reduced).dvd_of_dvd_mul_left h5
  exact Nat.mod_eq_zero_of_dvd h6
 .intro h
  obtain⟨c,hc⟩:=Nat.dvd_of_mod_eq_zero h
  have:a*(((k:Nat):Int):Rat)=((a.num*(c:Int):Int):Rat):=by
   rw[BI,h0,hc,J4,BI]
   generalize(((c:Nat):Int):Rat)=K
   generalize(((a.den:Nat):Int):Rat)=D
   grind
  rw[this]
  exact Rat.den_intCast _
@[reducible] def Tz(a:Rat)(n:Nat):Rat:=a*(((p10 n:Int):Rat) / ((1:Int):Rat))
theorem Ub(a:Rat)(n:Nat):Tz a n=a*((p10 n:Int):Rat):=by
 unfold Tz
 have:((1:Int):Rat)=1:=rfl
 rw[this]
 generalize((p10 n:Int):Rat)=K
 grind
def lI(k:Nat):ByteArray:=⟨(List.replicate k (48:UInt8)).toArray⟩
theorem jH(k:Nat):(lI k).size=k:=by
 show(List.replicate k (48:UInt8)).toArray.size=k
 simp
theorem Ju(k:Nat):(⟨#[48]⟩:ByteArray)++lI k=lI (k+1):=by
 unfold lI
 rw[ByteArray.ext_iff,ByteArray.data_append]
 simp[List.replicate_succ]
def kQ(n:Int):ByteArray:=if n<0 then(jg n).extract 1 (jg n).size else jg n
def BL(n:Int):ByteArray:=if n<0 then⟨#[45]⟩else⟨#[]⟩
def uO(n:Int)(k:Nat):ByteArray:=lI (k+1-(kQ n).size)++kQ n
def Jh(n:Int)(k:Nat):ByteArray:=if k=0 then BL n++kQ n else BL n++(uO n k).extract 0 ((uO n k).size-k)++⟨#[46]⟩++(uO n k).extract ((uO n k).size-k) (uO n k).size
def exS(a:Rat):ByteArray:=match Pv a with
 |some n=>Jh (Tz a n).num n
 |none=>⟨#[]⟩
theorem KI{a:Rat}{x:Nat}(hx:x<=30)(h:∀j<x,¬10^j%a.den=0)(h1:10^x%a.den=0):Pv a=some x:=by
 unfold Pv
 rw[List.find?_range_eq_some]
 refine⟨by simpa using h1,κ,λj hj=>by simpa using h j hj⟩
theorem TG{a:Rat}(h:∀j<31,¬10^j%a.den=0):Pv a=none:=by
 unfold Pv
 rw[List.find?_range_eq_none]
 intro j hj
 simpa using h j hj
theorem zH(n:Int):1<=(jg n).size:=by
 rw[sW]
 have:=nDigits_pos n.natAbs
 split<;>omega
theorem Nk{n:Nat}(h:n<=31):rz (((p10 n:Int):Rat)/((1:Int):Rat))<=8:=by
 have e:((p10 n:Int):Rat)/((1:Int):Rat)=((p10 n:Int):Rat):=by
  have:((1:Int):Rat)=1:=rfl
  rw[this]
  generalize((p10 n:Int):Rat)=K
  grind
 rw[e]
 exact A8 h
theorem Bo{n:Int}(h:sz n<=50):(kQ n).size<=460:=by
 have:=Sr h ψ
 unfold kQ
 split
 .rw[Ph];omega
 .omega
theorem E8{n:Int}{k:Nat}(h:sz n<=50)(hk:k<=30):(uO n k).size<=500/\k+1<=(uO n k).size:=by
 have:=Bo h
 unfold uO
 rw[Po,jH]
 omega
theorem Og{n:Int}{k:Nat}(h:sz n<=50)(hk:k<=30):(Jh n k).size<=1000:=by
 have h1:=E8 h hk
 have h2:=Bo h
 have h3:(BL n).size<=1:=by unfold BL;split<;>decide
 have h4:(⟨#[46]⟩:ByteArray).size=1:=rfl
 unfold Jh
 split
 .rw[Po];omega
 .rw[Po,Po,Po,Ph,Ph,h4];omega
theorem Zd{n:Int}{k:Nat}(h:(kQ n).size<=k):lI ((k:Int)+1-((kQ n).size:Int)).toNat++kQ n=uO n k:=by
 have:((k:Int)+1-((kQ n).size:Int)).toNat=k+1-(kQ n).size:=ω
 rw[this];rfl
theorem TV{n:Int}{k:Nat}(h:¬(kQ n).size<=k):uO n k=kQ n:=by
 unfold uO
 rw[show k+1-(kQ n).size=0 by omega,ByteArray.ext_iff,ByteArray.data_append]
 simp[lI]
theorem TY{n:Int}{k:Nat}(h:k=0):Jh n k=BL n++kQ n:=by unfold Jh;rw[if_pos h]
theorem MJ{n:Int}{k:Nat}(h:¬k=0):Jh n k=BL n++(uO n k).extract 0 ((uO n k).size-k)++⟨#[46]⟩++(uO n k).extract ((uO n k).size-k) (uO n k).size:=by unfold Jh;rw[if_neg h]
theorem FT{a:Rat}{x:Nat}(h:rz a<=20)(hx:x<=30):sz (Tz a x).num<=50:=by
 have z1:=fH (Tz a x)
 have z2:=gU a (((p10 x:Int):Rat)/((1:Int):Rat))
 have z3:=Nk (n:=x) ω
 unfold Tz at *
 omega
theorem TW{n:Int}(h:n<0):(jg n).extract (Int.toNat 1) (jg n).size=kQ n:=by unfold kQ;rw[if_pos h];rfl
theorem Tv{n:Int}(h:¬n<0):jg n=kQ n:=by unfold kQ;rw[if_neg h]
end Go.Sw
namespace Go.Sw
open Go
@[reducible] def pE(u v:P2):Bool:=decide (u.1=v.1) && decide (u.2=v.2)
theorem ji{u v:P2}:pE u v=decide (u=v):=Ii
theorem RI{p q:Rat}:jD p=jD q↔p=q:=⟨λh=>by have:=congrArg qR h;rwa [OG,OG]at this,λh=>h▸rfl⟩
theorem Et{l1 l2:ByteArray}{a b c d:P2}{r1 r2:Rq}:aY ⟨1,l1,[a,b],r1⟩ ⟨1,l2,[c,d],r2⟩=((l1.toList == l2.toList)&&((pE a c&&pE b d) ||(pE a d&&pE b c))):=by
 rw[ji,ji,ji,ji]
 unfold aY eqS pV
 simp[Bool.decide_or,Bool.decide_and]
theorem OJ{l1 l2:ByteArray}{a m b c n d:P2}{r1 r2:Rq}:aY ⟨2,l1,[a,m,b],r1⟩ ⟨2,l2,[c,n,d],r2⟩=((l1.toList == l2.toList)&&(((pE a c&&pE b d) ||(pE a d&&pE b c))&&(if(decide (gu a m b=0)||decide (gu c n d=0))=true then decide (gu a m b=0)&&(decide (gu c n d=0)&&pE m n)else uy c n d m&&uy a m b n))):=by
 rw[ji,ji,ji,ji,ji]
 unfold aY eqS pV
 simp[Bool.decide_or,Bool.decide_and,Vj,Bool.and_assoc]
theorem Dn{l1 l2:ByteArray}{a c:P2}{q1 q2:Rat}:aY ⟨3,l1,[a],jD q1⟩ ⟨3,l2,[c],jD q2⟩=((l1.toList == l2.toList)&&(pE a c&&decide (q1=q2))):=by
 rw[ji]
 have:decide (jD q1=jD q2)=decide (q1=q2):=decide_eq_decide.2 RI
 rw[<-this]
 show((l1.toList == l2.toList)&&decide ((3:Int)=3)&&(decide (a=c)&&decide (jD q1=jD q2)))=_
 rw[decide_eq_true (show(3:Int)=3 from rfl),Bool.and_true]
theorem gX{e f:Ent}(h:¬e.kind=f.kind):aY e f=false:=by
 unfold aY
 simp[h]
theorem jJ{e:Ent}(h:okV e):(∃l a b r,e=⟨1,l,[a,b],r⟩/\aF a/\aF b/\l.size<=1000)\/(∃l a m b r,e=⟨2,l,[a,m,b],r⟩/\aF a/\aF m/\aF b/\l.size<=1000)\/(∃l a q,e=⟨3,l,[a],jD q⟩/\aF a/\0<q/\rz q<=12/\l.size<=1000):=by
 obtain⟨kd,ly,pts,rd⟩:=e
 obtain⟨h1,h2,h3,h4⟩:=h
 simp only at h1 h2 h3 h4
 rcases h1 with⟨rfl,g⟩|⟨rfl,g⟩|⟨rfl,g,q,q1,q2,rfl⟩
 .match pts,g,h2 with
  |[a,b],_,h2=>exact .inl ⟨ly,a,b,rd,rfl,h2 a η,h2 b η,h3⟩
 .match pts,g,h2 with
  |[a,m,b],_,h2=>exact .inr (.inl ⟨ly,a,m,b,rd,rfl,h2 a η,h2 m η,h2 b η,h3⟩)
 .match pts,g,h2 with
  |[a],_,h2=>exact .inr (.inr ⟨ly,a,q,rfl,h2 a η,q1,q2,h3⟩)
theorem Jf{e:Ent}{l:List P2}(h:okV e)(hl:l.length=(aA e).length)(hp:∀p∈l,aF p):okV (dQ e l):=by
 obtain⟨m1,m2,m3,m4,m5⟩:=wS hl
 obtain⟨h1,h2,h3,h4⟩:=h
 refine⟨?_,wU h2 hp,by rw[m2];exact h3,by rw[m4];exact h4⟩
 rw[m3,m4,m5]
 exact h1
theorem KW{sq:Rat}{es:List Ent}(h:∀e∈es,okV e):∀e∈(bV sq 0 [] es).es,okV e:=by
 intro e he
 have hj:=Ee sq 0 [] es
 have h2:=(BZ (q:=aF) (sq:=sq) (λe he=>(h e he).2.1) es.length (iy _)).1
 rw[lY]at h2
 obtain⟨j,hj1,rfl⟩:=Ew he
 have hl:=hj.len
 obtain⟨ws,g1,g2,g3⟩:=hj.ent j (es[j]' ω) _ (gG _) (gG hj1)
 rw[g2]
 refine Jf (h _ (yw _)) g1 λp hp=>?_
 obtain⟨q,q1,rfl⟩:=nG (g3 p hp)
 exact h2 q q1
theorem zT{l:List (Ent×Nat)}(h:∀x∈l,okV x.1){x:Nat}(hx:x<l.length):okV (l.getD x N0).1:=by
 have:l.getD x N0=l[x]:=by simp[iC,hx]
 rw[this]
 exact h _ (yw hx)
theorem zO{l:List (Ent×Nat)}{x:Nat}(h:x<l.length):l.take (x+1)=l.take x++[l.getD x N0]:=by
 rw[NM,gG h]
 simp[iC,h]
def BO(l:List (Ent×Nat))(x:Nat):List (Ent×Nat):=nN (l.take x)
def BK(l:List (Ent×Nat))(x:Nat):List Chn:=mG (l.take x)
theorem Bg(l:List (Ent×Nat)):BO l l.length=nN l:=by unfold BO;rw[x9]
theorem AZ(l:List (Ent×Nat)):BK l l.length=mG l:=by unfold BK;rw[x9]
theorem N7{l:List (Ent×Nat)}{x:Nat}(h:x<l.length)(hf:dO (l.getD x N0).1=0):BO l (x+1)=BO l x++[l.getD x N0]/\BK l (x+1)=BK l x:=by
 unfold BO BK nN mG
 rw[zO h,JV,JV]
 simp only[List.filter_cons,List.filter_nil,hf]
 simp
theorem Il{l:List (Ent×Nat)}{x k:Nat}(h:x<l.length)(hf:dO (l.getD x N0).1=k+1):BO l (x+1)=BO l x/\BK l (x+1)=BK l x++[⟨k+1,(l.getD x N0).2,0,none,none⟩]:=by
 unfold BO BK nN mG
 rw[zO h,JV,JV]
 generalize l.getD x N0=y at *
 simp only[List.filter_cons,List.filter_nil,hf]
 simp[hf]
theorem wz(l:List (Ent×Nat))(x:Nat):(BO l x).length<=l.length/\(BK l x).length<=l.length:=by
 unfold BO BK nN mG
 have h1:=Xz (λx:Ent×Nat=>dO x.1 == 0) (l.take x)
 have h2:=Xz (λx:Ent×Nat=>!(dO x.1 == 0)) (l.take x)
 rw[lG]at h1 h2
 rw[aG]
 omega
theorem uV{e:Ent}{a b:P2}(hE:aA e=[a,b])(h:pE a b=true):dO e=2:=by
 rw[ji,decide_eq_true_eq]at h
 unfold dO
 rw[hE]
 simp[h]
theorem lV{e:Ent}{a b:P2}(hE:aA e=[a,b])(h:pE a b=false):dO e=if e.kind=2/\uK e=true then 5 else 0:=by
 rw[ji,decide_eq_false_iff_not]at h
 unfold dO
 rw[hE]
 simp[h]
theorem AQ{e:Ent}(hE:aA e=[]):dO e=if e.kind=2/\uK e=true then 5 else 0:=by
 unfold dO
 rw[hE]
def yt(l:List (Ent×Nat))(x:Nat):List (Ent×Nat):=(((l.zip (bJ (l.map (·.1)))).take x).filter λp=>!p.2).map (·.1)
def JO(l:List (Ent×Nat))(x:Nat):List Chn:=(((l.zip (bJ (l.map (·.1)))).take x).filter λp=>p.2).map λx=>⟨3,x.1.2,0,none,none⟩
theorem rD(l:List (Ent×Nat)):(l.zip (bJ (l.map (·.1)))).length=l.length:=by rw[List.length_zip,fF,aG,Nat.min_self]
theorem uS(l:List (Ent×Nat)):yt l l.length=xE l:=by
 unfold yt xE
 rw[JW (by rw[rD];exact iy _)]
theorem Sm(l:List (Ent×Nat)):JO l l.length=XL l:=by
 unfold JO XL
 rw[JW (by rw[rD];exact iy _)]
theorem zq{l:List (Ent×Nat)}{x:Nat}(h:x<l.length):(l.zip (bJ (l.map (·.1)))).take (x+1)=(l.zip (bJ (l.map (·.1)))).take x++[(l.getD x N0,(bJ (l.map (·.1))).getD x false)]:=by
 have h1:x<(l.zip (bJ (l.map (·.1)))).length:=by rw[rD];exact h
 have h2:x<(bJ (l.map (·.1))).length:=by rw[fF,aG];exact h
 rw[NM,gG h1,List.getElem_zip]
 simp[iC,h,h2]
theorem Yj{l:List (Ent×Nat)}{x:Nat}(h:x<l.length)(hb:(bJ (l.map (·.1))).getD x false=true):yt l (x+1)=yt l x/\JO l (x+1)=JO l x++[⟨3,(l.getD x N0).2,0,none,none⟩]:=by
 unfold yt JO
 rw[zq h,hb,JV,JV]
 simp
theorem aak{l:List (Ent×Nat)}{x:Nat}(h:x<l.length)(hb:(bJ (l.map (·.1))).getD x false=false):yt l (x+1)=yt l x++[l.getD x N0]/\JO l (x+1)=JO l x:=by
 unfold yt JO
 rw[zq h,hb,JV,JV]
 simp
theorem vT(l:List (Ent×Nat))(x:Nat):(yt l x).length<=l.length/\(JO l x).length<=l.length:=by
 unfold yt JO
 have h1:=Xz (λp:(Ent×Nat)×Bool=>!p.2) ((l.zip (bJ (l.map (·.1)))).take x)
 have h2:=Xz (λp:(Ent×Nat)×Bool=>p.2) ((l.zip (bJ (l.map (·.1)))).take x)
 rw[lG,rD]at h1 h2
 rw[aG,aG]
 omega
theorem left_ok{q:Ent->Prop}{l:List (Ent×Nat)}(h:∀x∈l,q x.1):∀x∈xE l,q x.1:=λx hx=>h x (J6 hx)
theorem P6{q:Ent->Prop}{l:List (Ent×Nat)}(h:∀x∈l,q x.1):∀x∈nN l,q x.1:=λx hx=>h x (xZ.1 hx).1
theorem abf{l:List (Ent×Nat)}{x:Nat}(h:x<l.length):(l.take (x+1)).map (·.1)=(l.take x).map (·.1)++[(l.getD x N0).1]:=by rw[zO h,bG];rfl
theorem rpL{l:List (Ent×Nat)}{x:Nat}(h:x<=l.length):(uf (l.map (·.1)) x).length=l.length:=by
 rw[Qc (by rw[aG];exact h),aG]
theorem DI{l:List (Ent×Nat)}{x:Nat}(h:x<l.length):(l.map (·.1)).getD x E0=(l.getD x N0).1:=by
 simp[iC,h]
theorem WC{l:List (Ent×Nat)}{x k:Nat}(hx:x<l.length)(hk:k<x)(h0:oZ (l.map (·.1)) x k=false)(h:(!(uf (l.map (·.1)) x).getD k false)=false\/aY (l.getD x N0).1 (l.getD k N0).1=false):oZ (l.map (·.1)) x (k+1)=false:=by
 rw[zx (by rw[aG];exact hx) hk,h0,DI hx,DI ω]
 rcases h with h|h<;>rw[h]<;>simp
theorem XK{l:List (Ent×Nat)}{x k:Nat}(hx:x<l.length)(hk:k<x)(h1:(!(uf (l.map (·.1)) x).getD k false)=true)(h2:aY (l.getD x N0).1 (l.getD k N0).1=true):uf (l.map (·.1)) (x+1)=(uf (l.map (·.1)) x).set x true:=by
 refine Ye (by rw[aG];exact hx) hk ?_
 rw[zx (by rw[aG];exact hx) hk,DI hx,DI ω,h1,h2]
 simp
theorem aat{l:List (Ent×Nat)}{x:Nat}(hx:x<l.length)(h:oZ (l.map (·.1)) x x=false):uf (l.map (·.1)) (x+1)=uf (l.map (·.1)) x:=ZC (by rw[aG];exact hx) h
theorem Qv(l:List (Ent×Nat)):uf (l.map (·.1)) l.length=bJ (l.map (·.1)):=by
 have:=SL (l.map (·.1))
 rwa [aG]at this
def mO:Rq×Rq:=(⟨false,[],false,[]⟩,⟨false,[],false,[]⟩)
theorem kE{e:EntR}(h:¬(e.kind=1/\e.pts.length=2\/e.kind=2/\e.pts.length=3\/e.kind=3/\e.pts.length=1)):jB e=false:=by
 unfold jB
 rw[decide_eq_false h,PE]
theorem oh{e:EntR}{x:Nat}(hx:x<e.pts.length)(h:(eY (e.pts.getD x mO).1&&eY (e.pts.getD x mO).2)=false):jB e=false:=by
 have:(e.pts.all λp=>eY p.1&&eY p.2)=false:=by
  rw[List.all_eq_false]
  refine⟨e.pts.getD x mO, ?_,by rw[h];decide⟩
  have:e.pts.getD x mO=e.pts[x]:=by simp[iC,hx]
  rw[this]
  exact yw hx
 unfold jB
 rw[this]
 simp
theorem kU{e:EntR}(h:e.kind=1/\e.pts.length=2\/e.kind=2/\e.pts.length=3\/e.kind=3/\e.pts.length=1)(h1:∀j<e.pts.length,(eY (e.pts.getD j mO).1&&eY (e.pts.getD j mO).2)=true):jB e=(decide (¬e.kind=3) ||(eY e.rad&&decide (0<qR e.rad))):=by
 have:(e.pts.all λp=>eY p.1&&eY p.2)=true:=by
  rw[jl]
  intro p hp
  obtain⟨j,hj,rfl⟩:=Ew hp
  have h2:=h1 j hj
  have e1:e.pts.getD j mO=e.pts[j]:=by simp[iC,hj]
  rwa [e1]at h2
 unfold jB
 rw[this,decide_eq_true h]
 simp
theorem AL{r:Rq}(h:eY r=true):vR r=true:=by
 unfold eY at h
 rw[bY]at h
 exact h.1
theorem jv{e:EntR}(h:kF e){x:Nat}(hx:x<e.pts.length):Aj (e.pts.getD x mO).1/\Aj (e.pts.getD x mO).2:=by
 have:e.pts.getD x mO=e.pts[x]:=by simp[iC,hx]
 rw[this]
 exact h.1 _ (yw hx)
def Tq(ls:List LayD)(e:EntR):Int:=if mP ls e.layer<0 then 4 else if jB e=false then 1 else 0
theorem N8{ls:List LayD}{es:List EntR}{x:Nat}:(Tq ls (es.getD x qg)=0->mJ ls es x=none)/\(¬Tq ls (es.getD x qg)=0->mJ ls es x=some (Tq ls (es.getD x qg))):=by
 unfold Tq mJ
 split
 .exact⟨λh=>(by cases h),λ_=>rfl⟩
 .split
  .exact⟨λh=>(by cases h),λ_=>rfl⟩
  .exact⟨λ_=>rfl,λh=>absurd rfl h⟩
theorem Kt{ls:List LayD}{x:Nat}(hx:x<ls.length):(pF (ls.take (x+1))=0->lu ls x=none)/\(¬pF (ls.take (x+1))=0->lu ls x=some (pF (ls.take (x+1)))):=by
 rw[EY hx]
 unfold lu
 split
 .exact⟨λh=>(by cases h),λ_=>rfl⟩
 .split
  .exact⟨λh=>(by cases h),λ_=>rfl⟩
  .exact⟨λ_=>rfl,λh=>absurd rfl h⟩
theorem Uc{es:List EntR}(h:∀e∈es,kF e){x:Nat}(hx:x<es.length):kF (es.getD x qg):=by
 have:es.getD x qg=es[x]:=by simp[iC,hx]
 rw[this]
 exact h _ (yw hx)
theorem Un{ls:List LayD}{n:Nat}(h:∀l∈ls,l.name.size<=n)(x:Nat):(ls.getD x L0).name.size<=n:=by
 by_cases hx:x<ls.length
 .have:ls.getD x L0=ls[x]:=by simp[iC,hx]
  rw[this]
  exact h _ (yw hx)
 .have:ls.getD x L0=L0:=by simp[iC,Nat.le_of_not_lt hx]
  rw[this]
  exact jm _
theorem zQ:rz zi<=8:=aO (ac7 1 1000 ψ ⟨ψ,ψ⟩ ⟨ψ,ψ⟩) ψ
theorem S9{a:Rat}(h:rz a<=12):rz (a*zi)<=20:=by
 have h1:=gU a zi
 have h2:=zQ
 omega
theorem KC:rz ((10000000:Int):Rat)<=4:=FZ _ ψ ψ
end Go.Sw
namespace Go.Sw
open Go Go.Lib Go.RowKit
end Go.Sw
namespace Go.Sw
open Go Go.Lib
theorem Gf(n:Int):((((kL (jg n)).getD (Int.toNat 0) 0:Nat):Int)=45)↔n<0:=by
 rw[qY]
 by_cases h:n<0
 .rw[if_pos h];simp[h]
 .rw[if_neg h]
  simp only[h,iff_false,mX]
  intro e
  have e2:(BM n.natAbs).getD 0 0=45:=by have e3:(((BM n.natAbs).getD 0 0:Nat):Int)=45:=e;omega
  refine VW n.natAbs ?_
  cases hd:BM n.natAbs with
  |nil=>rw[hd]at e2;simp at e2
  |cons x r=>rw[hd]at e2;simp at e2;subst e2;rfl
theorem KA{n:Int}(h:n<0):decide ((((kL (jg n)).getD (Int.toNat 0) 0:Nat):Int)=45)=true:=decide_eq_true ((Gf n).2 h)
theorem OC{n:Int}(h:¬n<0):decide ((((kL (jg n)).getD (Int.toNat 0) 0:Nat):Int)=45)=false:=decide_eq_false (λe=>h ((Gf n).1 e))
theorem GH(n:Int):1<=(kQ n).size:=by
 have h1:=nDigits_pos n.natAbs
 have h2:=sW n
 unfold kQ
 by_cases h:n<0
 .rw[if_pos h]at h2 ⊢
  rw[Ph];omega
 .rw[if_neg h]at h2 ⊢;omega
theorem zp0(n:Int):lI 0++kQ n=kQ n:=by
 rw[ByteArray.ext_iff,ByteArray.data_append]
 simp[lI]
theorem zpS{n:Int}{j:Nat}:(⟨#[48]⟩:ByteArray)++(lI j++kQ n)=lI (j+1)++kQ n:=by
 rw[<-ByteArray.append_assoc,Ju]
theorem zpE{n:Int}{j k:Nat}(h:j<=k+1-(kQ n).size)(h2:¬((lI j++kQ n).size:Int)<=k):lI j++kQ n=uO n k:=by
 rw[Po,jH]at h2
 have:j=k+1-(kQ n).size:=ω
 subst this;rfl
theorem adk{n:Int}(h:n<0):(jg n).extract (Int.toNat 1) (jg n).size=lI 0++kQ n:=by rw[zp0];exact TW h
theorem acK{n:Int}(h:¬n<0):jg n=lI 0++kQ n:=by rw[zp0];exact Tv h
theorem aaz{n:Int}(h:n<0):(⟨#[45]⟩:ByteArray)=BL n:=by unfold BL;rw[if_pos h]
theorem X3{n:Int}(h:¬n<0):(⟨#[]⟩:ByteArray)=BL n:=by unfold BL;rw[if_neg h]
theorem ZN(n:Int):uO n 0=kQ n:=by
 have:=GH n
 exact TV ω
theorem Xi(n:Int):(BL n).size<=1:=by unfold BL;split<;>decide
theorem acw{n:Int}{k:Nat}(h:(k:Int)=0):BL n++uO n k=Jh n k:=by
 have:k=0:=ω
 subst this
 rw[ZN,TY rfl]
theorem abY{n:Int}{k a b c:Nat}(h:¬(k:Int)=0)(ha:a=0)(hb:b=(uO n k).size-k)(hc:c=(uO n k).size):BL n++(uO n k).extract a b++⟨#[46]⟩++(uO n k).extract b c=Jh n k:=by
 subst ha hb hc
 exact(MJ ω).symm
theorem dm1{a:Rat}{x:Nat}:((((a*((p10 x:Int):Rat)).den:Nat):Int)=1)↔10^x%a.den=0:=by
 have:=den_mul a (10^x)
 rw[<-this]
 show((((a*(((10^x:Nat):Int):Rat)).den:Nat):Int)=1)↔_
 omega
theorem Si{a:Rat}{x:Nat}(hx:x<=30)(h:∀j<x,¬10^j%a.den=0)(h1:(((a*((p10 x:Int):Rat)).den:Nat):Int)=1):Pv a=some x/\exS a=Jh (a*((p10 x:Int):Rat)).num x:=by
 have e:=KI hx h (dm1.1 h1)
 refine⟨e, ?_⟩
 unfold exS
 rw[e]
 show Jh (Tz a x).num x=_
 rw[Ub]
theorem UH{a:Rat}(h:∀j<31,¬10^j%a.den=0):Pv a=none/\exS a=⟨#[]⟩:=by
 have e:=TG h
 refine⟨e, ?_⟩
 unfold exS
 rw[e]
theorem KG{a:Rat}{x:Nat}(h:rz a<=20)(hx:x<=30):sz (a*((p10 x:Int):Rat)).num<=50:=by
 rw[<-Ub]
 exact FT h hx
end Go.Sw
namespace Go.Proofs.YtmniihkenijjpaaGreatDoor
open Go Go.RowKit Go.Sw
set_option maxRecDepth 100000
set_option maxHeartbeats 8000000
instance aaI(neg:Bool)(l:List Nat):DenI Tryz.prog 221 [Zr neg l] (l.length<=9223372036854775807) (.bool (eF neg l)):=⟨λhp=>by
 refine au Tryz.func221 rfl ?_
 all_goals first
  |((conv=>whnf);refine Sw.Loop.inv (α:=Nat) (λx=>[(1,.ptr 1 0),(2,.bool false),(7,.c (lmc l)),(8,.int .i64 (l.length:Nat)),(9,.int .i64 x)]) (λx=>[(1,.var [.v (.bool neg),lmc l])]) (λx=>x<=l.length/\∀j,j<x->l.getD j 0<1000000000) (λx=>l.length-x) 0 ?_ ?_ ?_ (λx hx=>?_))
 all_goals(repeat'((try(conv=>whnf));first
  |(with_reducible first|refine zad (λ_=>?_) (λ_=>?_)|refine zak ?_ ?_)|apply zaq))
 all_goals(try apply zar)
 all_goals first|(show SubE _ _;repeat'(first|exact trivial|refine And.intro ?_ ?_))|(show SubB _ _;repeat'(first|exact trivial|refine And.intro ?_ ?_))|skip
 all_goals(try rfl)
 all_goals(try simp only[aG,dn]at *)
 all_goals first
  |exact bE (Ob (x:=x) ω ξ)|((conv=>whnf);exact⟨x+1,⟨⟨rfl,rfl,rfl,rfl,aH ω,trivial⟩,⟨rfl,trivial⟩,⟨ω,λj hj=>by rcases Nat.lt_succ_iff_lt_or_eq.1 hj with h|h;exact hx.2 j h;subst h;omega⟩,by show l.length-(x+1)<l.length-x;omega⟩⟩)|omega|exact⟨ω,λj hj=>by omega⟩|rfl|(rw[aS ω ω];omega)|(have w:(IntKind.i64.wrap ((l.length:Int)-1)).toNat=l.length-1:=(by rw[aS ω ω];omega);rw[w];exact bE (EL (wI λj hj=>hx.2 j ω) ω))|exact bE (Fp ω)⟩
instance afu(n1:Bool)(l1:List Nat)(n2:Bool)(l2:List Nat):DenI Tryz.prog 178 [Rr n1 l1 n2 l2] (l1.length<=1000000000/\l2.length<=1000000000) (.bool (fU n1 l1 n2 l2)):=⟨λhp=>by
 rcases uj n1 l1 n2 l2 with h|⟨x,rfl,rfl,h⟩|⟨x,y,rfl,rfl,rfl,rfl⟩
 all_goals refine au Tryz.func178 rfl ?_
 all_goals(repeat'((try(conv=>whnf));first
  |apply zaf|refine zaa ?_ ?_|(with_reducible first|apply zab|apply zac|refine zad (λ_=>?_) (λ_=>?_))|refine zat (λ_=>?_) (λ_=>?_)|apply zaq))
 all_goals(try apply zar)
 all_goals(try simp only[aV]at *)
 all_goals first
  |(simp only[lN]at *;exfalso;simp_all;done)|(exfalso;simp_all;done)|exact bE (adl (x:=x) (y:=y) ω)|exact bE (acn (x:=x) (y:=y) ω)|exact bE (by unfold fU;simp_all)|exact hp|(first|exact aO hp.1 ψ|exact aO hp.2 ψ)⟩
end Go.Proofs.YtmniihkenijjpaaGreatDoor
namespace Go.Sw
open Go
def jZ(tol:Rat)(es:List Ent):List (Ent×Nat):=(bV (tol*tol) 0 [] es).es.zipIdx
def jK(tol:Rat)(es:List Ent):List (Ent×Nat):=nN (jZ tol es)
def jL(tol:Rat)(es:List Ent):List (Ent×Nat):=xE (jK tol es)
def pO(tol:Rat)(es:List Ent)(x:Nat):List Chn:=(bV (tol*tol) 0 [] es).cs++mG (jZ tol es)++JO (jK tol es) x
theorem NR(tol:Rat)(es:List Ent):pO tol es 0=(bV (tol*tol) 0 [] es).cs++mG (jZ tol es):=by unfold pO JO;simp
theorem xO(tol:Rat)(es:List Ent):(jZ tol es).length=es.length:=by unfold jZ;rw[PK,nV]
theorem xG(tol:Rat)(es:List Ent):(jK tol es).length<=es.length:=by
 have:=(wz (jZ tol es) (jZ tol es).length).1
 rw[Bg,xO]at this
 exact this
theorem xP(tol:Rat)(es:List Ent):(jL tol es).length<=es.length:=by
 have:=(vT (jK tol es) (jK tol es).length).1
 rw[uS]at this
 have h2:=xG tol es
 exact aO this h2
theorem UA{tol:Rat}{es:List Ent}(h:∀e∈es,okV e):∀x∈jZ tol es,okV x.1:=λx hx=>KW h _ (zip_fst hx)
theorem OB{tol:Rat}{es:List Ent}(h:∀e∈es,okV e):∀x∈jK tol es,okV x.1:=P6 (UA h)
theorem KT{tol:Rat}{es:List Ent}(h:∀e∈es,okV e):∀x∈jL tol es,okV x.1:=left_ok (OB h)
theorem rO{tol:Rat}{es:List Ent}(h:∀e∈es,okV e)(x:Nat):(bV (tol*tol) 0 [] es).cs.length<=2*es.length/\(mG (jZ tol es)).length<=es.length/\(pO tol es x).length<=4*es.length:=by
 have h1:=BZ (q:=aF) (sq:=tol*tol) (es:=es) (λe he=>(h e he).2.1) es.length (iy _)
 have h2:=DU es es.length
 rw[lY]at h1
 have h3:=(wz (jZ tol es) (jZ tol es).length).2
 rw[AZ,xO]at h3
 have h4:=(vT (jK tol es) x).2
 have h5:=xG tol es
 have h6:=h1.2.2.2.1
 refine⟨ω,h3, ?_⟩
 unfold pO
 rw[bD,bD]
 omega
theorem wV(tol:Rat)(es:List Ent):(aU (tol*tol) es).es=(jL tol es).map (·.1)/\(aU (tol*tol) es).cs=pO tol es (jK tol es).length++zG (jL tol es):=by
 refine⟨rfl, ?_⟩
 unfold pO
 rw[Sm]
 rfl
theorem Ib{tol:Rat}{es:List Ent}(h:es.length<=12)(h4:∀e∈es,okV e):(aU (tol*tol) es).cs.length<=1000:=by
 rw[(wV tol es).2]
 have h1:=(rO (tol:=tol) h4 (jK tol es).length).2.2
 have h2:=wC (jL tol es) (jL tol es).length (iy _)
 have h3:=xP tol es
 rw[Hq]at h2
 rw[bD]
 omega
theorem TM{tol:Rat}{es:List Ent}{x:Nat}(h:x<(jK tol es).length)(hb:(bJ ((jK tol es).map (·.1))).getD x false=true):yt (jK tol es) (x+1)=yt (jK tol es) x/\pO tol es (x+1)=pO tol es x++[⟨3,((jK tol es).getD x N0).2,0,none,none⟩]:=by
 obtain⟨h1,h2⟩:=Yj h hb
 refine⟨h1, ?_⟩
 unfold pO
 rw[h2,jR,jR,jR]
theorem TN{tol:Rat}{es:List Ent}{x:Nat}(h:x<(jK tol es).length)(hb:(bJ ((jK tol es).map (·.1))).getD x false=false):yt (jK tol es) (x+1)=yt (jK tol es) x++[(jK tol es).getD x N0]/\pO tol es (x+1)=pO tol es x:=by
 obtain⟨h1,h2⟩:=aak h hb
 refine⟨h1, ?_⟩
 unfold pO
 rw[h2]
theorem Jy{l:List (Ent×Nat)}{x:Nat}(h:x<l.length):((l.take (x+1)).map (·.1)).map aN=((l.take x).map (·.1)).map aN++[aN (l.getD x N0).1]:=by
 rw[abf h,bG];rfl
def C0:Chn:=⟨0,0,0,none,none⟩
def yh(cs:List Chn):Bool:=cs.all λc=>decide (c.kind=4)
def Ut(cs:List Chn):Int:=match FI cs.length (λi=>if(cs.getD i C0).kind=4 then none else some i)with
 |some i=>((i:Nat):Int)
 |none=>-1
theorem Vz{cs:List Chn}{x:Nat}(hx:x<cs.length)(h:∀j<x,(cs.getD j C0).kind=4)(h1:¬(cs.getD x C0).kind=4):Ut cs=(x:Nat):=by
 unfold Ut
 rw[rM (x:=x) (r:=x) hx (λj hj=>by rw[if_pos (h j hj)]) (by rw[if_neg h1])]
theorem ZX{cs:List Chn}(h:∀j<cs.length,(cs.getD j C0).kind=4):Ut cs = -1:=by
 unfold Ut
 rw[oq (λj hj=>by rw[if_pos (h j hj)])]
theorem aay(cs:List Chn):decide (Ut cs>=0) = !yh cs:=by
 unfold yh
 cases e:FI cs.length (λi=>if(cs.getD i C0).kind=4 then none else some i)with
 |none =>
  have h1:=EM e
  have h2:(cs.all λc=>decide (c.kind=4))=true:=by
   rw[jl]
   intro c hc
   obtain⟨j,hj,rfl⟩:=Ew hc
   have h3:=h1 j hj
   have e1:cs.getD j C0=cs[j]:=by simp[iC,hj]
   rw[e1]at h3
   split at h3
   .rename_i g;simpa using g
   .cases h3
  rw[h2]
  unfold Ut
  rw[e];rfl
 |some i =>
  obtain⟨j,hj,h3⟩:=Fq e
  have h2:(cs.all λc=>decide (c.kind=4))=false:=by
   rw[List.all_eq_false]
   have e1:cs.getD j C0=cs[j]:=by simp[iC,hj]
   rw[e1]at h3
   split at h3
   .cases h3
   .rename_i g;exact⟨cs[j],yw hj,by simpa using g⟩
  rw[h2]
  unfold Ut
  rw[e]
  simp
@[reducible] def DZ(x y u v:Int):Ent:=⟨1,⟨#[97]⟩,[((x:Rat),(y:Rat)),((u:Rat),(v:Rat))],⟨false,[],false,[]⟩⟩
def jq(x:Int):Prop:=-9223372036854775808<=x/\x<=9223372036854775807
theorem Bz{x y u v:Int}(h1:jq x)(h2:jq y)(h3:jq u)(h4:jq v):okV (DZ x y u v)/\kF (dM (DZ x y u v)):=by
 have z1:=FZ x h1.1 h1.2
 have z2:=FZ y h2.1 h2.2
 have z3:=FZ u h3.1 h3.2
 have z4:=FZ v h4.1 h4.2
 have hs:∀q:Rat,rz q<=4->Aj (jD q):=λq h=>by
  have e1:(lim q.num.natAbs).length<=rz q:=fH q
  have e2:(lim (q.den:Int).natAbs).length<=rz q:=fZ q
  exact⟨by show(lim q.num.natAbs).length<=6;omega,by show(lim (q.den:Int).natAbs).length<=6;omega⟩
 refine⟨⟨.inl ⟨rfl,rfl⟩,λp hp=>?_,by show(ByteArray.mk #[97]).size<=1000;decide,by show 2<=3;decide⟩,λp hp=>?_,⟨jm 6,jm 6⟩,by show 2<=5;decide,by show(ByteArray.mk #[97]).size<=60;decide⟩
 .have hp':p=((x:Rat),(y:Rat))\/p=((u:Rat),(v:Rat)):=by simpa using hp
  rcases hp' with rfl|rfl
  .exact⟨aO z1 ψ,aO z2 ψ⟩
  .exact⟨aO z3 ψ,aO z4 ψ⟩
 .have hp':p=(jD (x:Rat),jD (y:Rat))\/p=(jD (u:Rat),jD (v:Rat)):=by simpa[dM]using hp
  rcases hp' with rfl|rfl
  .exact⟨hs _ z1,hs _ z2⟩
  .exact⟨hs _ z3,hs _ z4⟩
def aw1:List Ent:=[DZ 0 0 1000 0,DZ 1003 0 0 1000,DZ 0 1004 0 0]
def aw2:List Ent:=[DZ 0 0 2 0]
@[reducible] def aLL:List LayD:=[⟨⟨#[97]⟩,1,1000⟩]
theorem sG:(∀e∈aw1,okV e)/\∀e∈aw1,kF (dM e):=by
 have h1:=Bz (x:=0) (y:=0) (u:=1000) (v:=0) (by unfold jq;omega) (by unfold jq;omega) (by unfold jq;omega) (by unfold jq;omega)
 have h2:=Bz (x:=1003) (y:=0) (u:=0) (v:=1000) (by unfold jq;omega) (by unfold jq;omega) (by unfold jq;omega) (by unfold jq;omega)
 have h3:=Bz (x:=0) (y:=1004) (u:=0) (v:=0) (by unfold jq;omega) (by unfold jq;omega) (by unfold jq;omega) (by unfold jq;omega)
 constructor<;>(intro e he;simp only[aw1,qh,List.not_mem_nil,or_false]at he;rcases he with rfl|rfl|rfl)
 .exact h1.1
 .exact h2.1
 .exact h3.1
 .exact h1.2
 .exact h2.2
 .exact h3.2
theorem NS:(∀e∈aw2,okV e)/\∀e∈aw2,kF (dM e):=by
 have h1:=Bz (x:=0) (y:=0) (u:=2) (v:=0) (by unfold jq;omega) (by unfold jq;omega) (by unfold jq;omega) (by unfold jq;omega)
 constructor<;>(intro e he;simp only[aw2,qh,List.not_mem_nil,or_false]at he;subst he)
 .exact h1.1
 .exact h1.2
theorem Me:dS aLL (aw1.map dM)=0:=by decide +kernel
theorem aai:dS aLL (aw2.map dM)=0:=by decide +kernel
theorem Ny{cs:List Chn}{l:List (Nat×Nat)}(h:(cs.map λc=>(c.kind,c.ent))=l):cs.length=l.length/\∀i,i<l.length->(cs.getD i C0).kind=(l.getD i (0,0)).1/\(cs.getD i C0).ent=(l.getD i (0,0)).2:=by
 subst h
 refine⟨η,λi hi=>?_⟩
 have hi':i<cs.length:=by simpa using hi
 simp[iC,hi']
theorem YM:((aU (((5:Int):Rat)*((5:Int):Rat)) aw1).cs.map λc=>(c.kind,c.ent))=[(1,1),(1,2)]:=by decide +kernel
theorem YV:((aU (((3:Int):Rat)*((3:Int):Rat)) aw1).cs.map λc=>(c.kind,c.ent))=[(1,1),(4,1),(4,2)]:=by decide +kernel
theorem Yu:((aU (((5:Int):Rat)*((5:Int):Rat)) aw2).cs.map λc=>(c.kind,c.ent))=[(1,0),(2,0)]:=by decide +kernel
theorem ZM:(aU (((5:Int):Rat)*((5:Int):Rat)) aw2).es.length=0:=by decide +kernel
theorem Zc:yh (aU (((5:Int):Rat)*((5:Int):Rat)) aw1).cs=false:=by decide +kernel
theorem CW{n:Int}(h:0<=n)(h2:n<=100):rz (n:Rat)<=12/\¬(n:Rat)<0:=⟨aO (FZ n ω ω) ψ,λhn=>by
 have:=Rat.intCast_lt_intCast.1 (show((n:Int):Rat)<((0:Int):Rat)from hn)
 omega⟩
def Px(r:Rq):Bool:=decide (r.l.length<=6)&&decide (r.m.length<=6)
theorem vH{r:Rq}:Px r=true↔Aj r:=by
 unfold Px Aj
 simp
theorem Wh{r:Rq}(h:¬(r.l.length<=6/\r.m.length<=6)):Px r=false:=by
 rw[<-Bool.not_eq_true,vH]
 exact h
def vsB(p:Rq×Rq):Bool:=Px p.1&&Px p.2
def uQ(e:EntR):Bool:=(decide (e.pts.length<=5)&&(decide (e.layer.size<=60)&&Px e.rad))&&e.pts.all vsB
def JH(ls:List LayD)(es:List EntR):Bool:=decide (ls.length<=25)&&(ls.all (λl=>decide (l.name.size<=60))&&es.all uQ)
theorem vF{α:Type}{l:List α}{p:α->Bool}(d:α):l.all p=true↔∀j<l.length,p (l.getD j d)=true:=by
 rw[jl]
 constructor
 .intro h j hj
  have:l.getD j d∈l:=by simp[List.getD,hj]
  exact h _ this
 .intro h x hx
  obtain⟨j,hj,rfl⟩:=Ew hx
  have:=h j hj
  simpa[List.getD,hj]using this
theorem Fv{α:Type}{l:List α}{p:α->Bool}(d:α){j:Nat}(h:j<l.length)(h1:p (l.getD j d)=false):l.all p=false:=by
 rw[<-Bool.not_eq_true,vF d]
 intro h2
 have:=h2 j h
 rw[h1]at this
 cases this
theorem VP{ls:List LayD}{es:List EntR}(h:¬ls.length<=25):JH ls es=false:=by unfold JH;rw[decide_eq_false h];rfl
theorem VQ{ls:List LayD}{es:List EntR}{x:Nat}(hx:x<ls.length)(h:¬(ls.getD x L0).name.size<=60):JH ls es=false:=by
 unfold JH
 rw[Fv L0 hx (decide_eq_false h)]
 simp
theorem Ac{ls:List LayD}{es:List EntR}{x:Nat}(hx:x<es.length)(h:uQ (es.getD x qg)=false):JH ls es=false:=by
 unfold JH
 rw[Fv qg hx h]
 simp
theorem Zk{ls:List LayD}{es:List EntR}(h:ls.length<=25)(h1:∀j<ls.length,(ls.getD j L0).name.size<=60)(h2:∀j<es.length,uQ (es.getD j qg)=true):JH ls es=true:=by
 unfold JH
 rw[decide_eq_true h,(vF qg).2 h2,(vF L0).2 (λj hj=>decide_eq_true (h1 j hj))]
 rfl
theorem FX{e:EntR}(h:¬e.pts.length<=5\/¬e.layer.size<=60\/Px e.rad=false):uQ e=false:=by
 unfold uQ
 rcases h with h|h|h
 .rw[decide_eq_false h];rfl
 .rw[decide_eq_false h];simp
 .rw[h];simp
theorem WM{e:EntR}{k:Nat}(hk:k<e.pts.length)(h:vsB (e.pts.getD k mO)=false):uQ e=false:=by
 unfold uQ
 rw[Fv mO hk h]
 simp
theorem Wv{e:EntR}(h1:e.pts.length<=5)(h2:e.layer.size<=60)(h3:Px e.rad=true)(h4:∀k<e.pts.length,vsB (e.pts.getD k mO)=true):uQ e=true:=by
 unfold uQ
 rw[decide_eq_true h1,decide_eq_true h2,h3,(vF mO).2 h4]
 rfl
theorem RF{e:EntR}(h:uQ e=true):kF e:=by
 unfold uQ at h
 simp only[bY,decide_eq_true_eq,jl]at h
 obtain⟨⟨h1,h2,h3⟩,h4⟩:=h
 refine⟨λp hp=>?_,vH.1 h3,h1,h2⟩
 have:=h4 p hp
 unfold vsB at this
 rw[bY,vH,vH]at this
 exact this
theorem VK{ls:List LayD}{es:List EntR}(h:JH ls es=true):ls.length<=25/\(∀l∈ls,l.name.size<=1000)/\∀e∈es,kF e:=by
 unfold JH at h
 simp only[bY,decide_eq_true_eq,jl]at h
 exact⟨h.1,λl hl=>aO (h.2.1 l hl) ψ,λe he=>RF (h.2.2 e he)⟩
def smA(ls:List LayD)(es:List EntR)(t:Rq):Bool:=(decide (es.length<=12)&&JH ls es)&&TP 3 (t.a,t.l,t.b,t.m)
theorem Xh{ls:List LayD}{es:List EntR}{t:Rq}(h:smA ls es t=true):ls.length<=25/\(∀l∈ls,l.name.size<=1000)/\es.length<=12/\(∀e∈es,kF e)/\∃q:Rat,t=jD q/\rz q<=6:=by
 unfold smA TP at h
 simp only[bY,decide_eq_true_eq]at h
 obtain⟨⟨h1,h2⟩,h3,h4,h5⟩:=h
 obtain⟨g1,g2,g3⟩:=VK h2
 refine⟨g1,g2,h1,g3,qR t,qU h5, ?_⟩
 have e:=qU (r:=t) h5
 generalize qR t=q at e
 subst e
 have h3':(lim q.num.natAbs).length<=3:=by have:((lim q.num.natAbs).length:Int)<=3:=h3;omega
 have h4':(lim (q.den:Int).natAbs).length<=3:=by have:((lim (q.den:Int).natAbs).length:Int)<=3:=h4;omega
 unfold rz sz
 omega
theorem Xd(ls:List LayD)(es:List EntR):¬(if dS ls es≠0 then dS ls es else 1)=0:=by
 split
 .assumption
 .decide
end Go.Sw
namespace Go.Sw
open Go Go.Lib
theorem RY{e:EntR}(h:e.kind=3)(h1:(eY e.rad&&decide (0<qR e.rad))=false):jB e=false:=by
 unfold jB
 rw[h1,decide_eq_false (show¬¬e.kind=3 fromλg=>g h)]
 simp
theorem VN{ls:List LayD}{x:Nat}(h:(!xI (ls.getD x L0))=true):lu ls x=some 1:=by
 unfold lu
 rw[if_pos (by simpa using h)]
theorem XM{ls:List LayD}{x:Nat}(h:(!xI (ls.getD x L0))=false)(h2:mP ls (ls.getD x L0).name<(x:Nat)):lu ls x=some 5:=by
 unfold lu
 rw[if_neg (by simpa using h),if_pos h2]
theorem XB{ls:List LayD}{x:Nat}(h:(!xI (ls.getD x L0))=false)(h2:¬mP ls (ls.getD x L0).name<(x:Nat)):lu ls x=none:=by
 unfold lu
 rw[if_neg (by simpa using h),if_neg h2]
theorem Vd{ls:List LayD}{es:List EntR}{x:Nat}(h:mP ls (es.getD x qg).layer<0):mJ ls es x=some 4:=by
 unfold mJ
 rw[if_pos h]
theorem WU{ls:List LayD}{es:List EntR}{x:Nat}(h:¬mP ls (es.getD x qg).layer<0)(h2:(!jB (es.getD x qg))=true):mJ ls es x=some 1:=by
 unfold mJ
 rw[if_neg h,if_pos (by simpa using h2)]
theorem WJ{ls:List LayD}{es:List EntR}{x:Nat}(h:¬mP ls (es.getD x qg).layer<0)(h2:(!jB (es.getD x qg))=false):mJ ls es x=none:=by
 unfold mJ
 rw[if_neg h,if_neg (by simpa using h2)]
end Go.Sw
namespace Go.Sw
open Go Go.RowKit
theorem ex_idxq{P:Program}{ρ:Operand->Value}{w:World}{d:Option Tmp}{ty:TypeId}{pos:String}{af:Array Edge}{gd:Option (Nat×Bool)}{t e:TypeId}{s:Nat}{x y:Operand}{g n c:Nat}{k:IntKind}{j:Nat}(ht:sliceOf P t=some (e,s))(hx:ρ x=.slice (some ⟨g,0,none⟩) n c)(hy:ρ y=.int k (j:Nat))(h1:j<n):
 (execOp ρ ⟨d,.indexAddr t x y,ty,pos,af,gd⟩).run P w=.ok (.value (.pointer (some ⟨g,j*s,none⟩))) w:=by
 have:=ex_idxr (w:=w) (d:=d) (ty:=ty) (pos:=pos) (af:=af) (gd:=gd) ht hx rfl hy rfl h1
 rwa [Addr.add_lit,oV]at this
def JEnd(P:Program)(kT T:TypeId)(s:Nat)(st:JS)(w:World)(X:List Nat)(us:List Value)(more:List Bx)(mo:Nat×Array MapEntry×Nat)(r:AV)(u:Value)(w':World):Prop :=
 ∃(more':List Bx) (mo':Nat×Array MapEntry×Nat),mo'.1=mo.1/\w'.heap[mo.1]?=some (.map mo'.2.1 mo'.2.2)/\(∀q∈more',(q.1∈bl more\/w.heap.size<=q.1)/\w'.heap[q.1]?=some (.cells q.2.2 q.2.1 (0,0)))/\(more'.Pairwise λa b=>a.1≠b.1) /\
  (w'.os=w.os/\w'.tape=w.tape/\w'.output=w.output/\w.heap.size<=w'.heap.size/\∀k,k<w.heap.size->k≠mo.1->k ∉ bl more->w'.heap[k]?=w.heap[k]?)/\RepR w' (bl more'++X) u r/\(jgho P kT T s st).rep w' (bl more'++X) us more' mo'
theorem RepR.ext{w w':World}{X X':List Nat}{u:Value}{r:AV}(h:RepR w X u r)(e:Ext w X w' X'):RepR w' X' u r:=by
 cases h with
 |d h=>exact .d (h.ext e)
 |tup hl h=>exact .tup hl λi u v a b=>(h i u v a b).ext e
theorem jfin{P:Program}{kT T:TypeId}{s:Nat}{st:JS}{w w':World}{X:List Nat}{us:List Value}{more:List Bx}{mo:Nat×Array MapEntry×Nat}{r:AV}{u:Value}{m:Nat}(hB:Below w.heap.size w w')(hmore:∀q∈more,q.1∈X/\w.heap[q.1]?=some (.cells q.2.2 q.2.1 (0,0)))(hnd:more.Pairwise λa b=>a.1≠b.1)
 (hmap:w.heap[mo.1]?=some (.map mo.2.1 mo.2.2)) (hrep:jrep P kT T s st w X us more mo) (hn:st.n<=m) (hR:RepR w X u r):JEnd P kT T s ⟨st.sq,st.f,m⟩ w X us more mo r u w':=by
 have hext:Ext w X w' (bl more++X):=⟨hB.size,λk hk hx _=>⟨hB.block k hk,λhm=>by
  rcases jF.1 hm with hm|hm
  .obtain⟨q,hq,rfl⟩:=dW.1 hm
   exact hx (hmore q hq).1
  .exact hx hm⟩⟩
 refine⟨more,mo,rfl,(hB.block _ (lt_of_heap hmap)).trans hmap,λq hq=>⟨.inl (dW.2 ⟨q,hq,rfl⟩),(hB.block _ (lt_of_heap (hmore q hq).2)).trans (hmore q hq).2⟩,hnd,⟨hB.os,hB.tape,hB.output,hB.size,λk hk _ _=>hB.block k hk⟩,hR.ext hext, ?_⟩
 obtain⟨us',h1,h2,h3,h4,val,og,h5,h6,h7⟩:=hrep
 exact⟨us',h1,h2.ext hext,h3,aO h4 hn,val,og,h5,λk=>(h6 k).ext hext,h7⟩
theorem jfound{sq:Rat}{sp:Spots}{s:ByteArray}{v:P2}{n:Nat}(h:0<=bestI sq v (spotsAt sp s) (spotsAt sp s).length):(jst sq (joinP sq sp s v).1 n)=jst sq sp n/\(joinP sq sp s v).2=(spotsAt sp s).getD (bestI sq v (spotsAt sp s) (spotsAt sp s).length).toNat P0:=by
 obtain⟨_,_,h3⟩:=bestI_ok sq v (spotsAt sp s) _ (iy _)
 rw[x9,if_neg ω]at h3
 unfold joinP
 rw[h3]
 exact⟨rfl,rfl⟩
theorem jnew{sq:Rat}{sp:Spots}{s:ByteArray}{v:P2}{n:Nat}(h:bestI sq v (spotsAt sp s) (spotsAt sp s).length<0):(jst sq (joinP sq sp s v).1 (n+1))=(jst sq sp n).add s (vecC v)/\(joinP sq sp s v).2=v:=by
 obtain⟨_,_,h3⟩:=bestI_ok sq v (spotsAt sp s) _ (iy _)
 rw[x9,if_pos h]at h3
 unfold joinP
 rw[h3,jst_add]
 exact⟨rfl,rfl⟩
end Go.Sw
namespace Go.Sw
open Go Go.RowKit Go.Proofs Go.Shelf Go.Lib
set_option maxHeartbeats 2000000 in
set_option maxRecDepth 100000 in
theorem clone_at{P:Program}{ρ:Ren}(L:SlLaysE0.n41 P ρ)(i0:TypeInfo)(z:Value)(size bytes:Nat)(hi:P.info? (ρ.t 23)=some i0)(hz0:i0.zero=some z)(hz1:i0.size=size)(hz2:i0.bytes=bytes)(hzs:z.cells.size=size)(hsz:0<size)
 (z23:∀w,(Go.sizeOf (ρ.t 23)).run P w=.ok size w) (a:Addr) (n c:Nat) (news:List Value) (w:World) (hl:news.length=n*size) (hn:n<=maxLen) (hbig:n*bytes<=140737488355328)
 (hc:∀j u,news[j]?=some u->w.cell? (a.add j)=some u) (h1:∀u∈news,u.oneCell'=true) :
 Calls P (ρ.f 41) #[.slice (some a) n c] w λe w'=>∃v',e=.returned v'/\w'.ownsRow w.heap.size (ρ.t 23) size v' n news/\Below w.heap.size w w':=by
 have mixed:=L.mixed;have t4:=L.t4;have a4:=L.a4;have z4:=L.z4;have v4:=L.v4;have t22:=L.t22;have a22:=L.a22;have z22:=L.z22;have v22:=L.v22
 have q22:∀(w:World) (a:Option Addr) (n c n' c':Nat),(binOp .eql (ρ.t 22) (.slice a n c) (.slice none n' c')).run P w=.ok (.bool a.isNone) w:=λw a n c n' c'=>Lib.run_eql_slice_nil w _ _ a n c n' c' L.t22
 have u22:∀w,Sem.run P (underlying (ρ.t 22)) w=.ok (TypeDesc.slice (ρ.t 23)) w:=run_underlying t22
 have A:Aside (∀j u,news[j]?=some u->w.cell? (a.add j)=some u):=hc
 clear hc
 obtain⟨_,_,FG⟩:=L.f41
 go_enter FG,SlBodyN.n41_ntmps ρ
 go_wp2_with (at_builtin;refine wpList_append_own _ rfl _ _ (ρ.t 22) rfl w.heap.size (ρ.t 23) i0 z size bytes t22 hi hz0 hz1 hz2 hzs hsz _ _ _ rfl (World.ownsRow_made w #[] 0 (iy _) (jm _) η) a n c news rfl ?qc1 ?qc2 ?qc3 ?qc4 ?qc5 ?qc6 ?_)
 case qc1=>exact hl
 case qc2=>exactλj u hj=>Lib.cell?_alloc_some _ (A.out j u hj)
 case qc3=>exact h1
 case qc4=>rw[oV];exact hn
 case qc5=>rw[oV];exact hbig
 case qc6=>simp
 intro v' w1 hown hgrow hnil
 go_wp2
 go_ret
 exact⟨v',rfl,by simpa using hown,((Below.refl _ w).alloc (iy _) _).grown hgrow η (by intro k hk;simp[Value.ownBlock]at hk;omega)⟩
theorem Jj{P:Program}[Wld P]{ρ:Ren}(L:SlLaysE0.n41 P ρ)(hb:hasBody P (ρ.f 41)=true)(i0:TypeInfo)(z:Value){k:Nat}(hi:P.info? (ρ.t 23)=some i0)(hz0:i0.zero=some z)(hz1:i0.size=k)(hby:i0.bytes<=1000000)(hzs:z.cells.size=k)(hk:0<k)
 (z23:∀w,(Go.sizeOf (ρ.t 23)).run P w=.ok k w) {es:List (List Cell)} (hn:es.length<=1000000):Den P (ρ.f 41) [.c (.sl k es)] (.c (.sl k es)):=by
 refine Den.of ⟨hb,λw X vs hW hX hl hr=>?_⟩ rfl
 match vs,hl with
 |[u],_ =>
 have hu:RepC w X u (.sl k es):=by
  have:=hr 0 u _ rfl rfl
  cases this with
  |c h=>exact h
 obtain⟨A,cap,uss,rfl,hcap,hmx,hc,hS⟩:=RepS.of_sl hu
 have hone:∀us∈uss,∀u∈us,u.oneCell'=true:=λus hu=>by
  obtain⟨j,hj,rfl⟩:=Ew hu
  exact(hS.get j _ _ (gG hj) (gG (by rw[<-hS.len];exact hj))).one
 have hfl:uss.flatten.length=es.length*k:=by rw[flatten_len hS.sz,hS.len]
 cases A with
 |none =>
  have h0:uss.flatten=[]:=by
   by_cases h:uss.flatten=[]
   .exact h
   .obtain⟨ad,h1,_⟩:=hc h;cases h1
  rw[h0]at hfl
  have:es=[]:=by
   rcases qQ es.length with h|h
   .exact BG h
   .have:=Nat.mul_pos h hk;simp at hfl;omega
  subst this
  refine Calls.mono (AnyE.slices_Clone_nil L _ _ w) ?_
  rintro e w' ⟨rfl,rfl⟩
  exact⟨_,rfl,(RepR.d (.c (RepC.nil _ _ _))).f,Below.refl _ _⟩
 |some a =>
  refine Calls.mono (clone_at L i0 z k i0.bytes hi hz0 hz1 rfl hzs hk z23 a es.length cap uss.flatten w hfl (by unfold maxLen;omega) (aO (F9 hn hby) ω) (λj u hj=>?_) (λu hu=>?_)) ?_
  .obtain⟨ad,h1,_,_,h2⟩:=hc (λh=>by rw[h]at hj;cases hj)
   cases h1
   exact h2 j u hj
  .obtain⟨us,h1,h2⟩:=List.mem_flatten.1 hu
   exact hone us h1 u h2
  .rintro e w' ⟨v',rfl,hown,hB⟩
   have hext:=Ext.call X hB
   have hS':=hS.ext hext
   refine⟨v',rfl,(RepR.d (.c ?_)).f,hB⟩
   rcases hown with⟨_,⟨rfl,h0⟩|⟨g,cap',cur,rfl,h1,h2,h3,h4,h5,h6⟩⟩
   .have:es=[]:=BG h0
    subst this
    exact RepC.nil _ _ _
   .refine RepS.sl hS' (λhne=>?_) h3 (by unfold maxLen at h4;omega)
    have hgl:g<w'.heap.size:=by
     rcases yD g w'.heap.size with h'|h'
     .exact h'
     .rw[Array.getElem?_eq_none h']at h2;cases h2
    refine⟨_,rfl,hgl,λhm=>?_,λj u hj=>?_⟩
    .have:=hX g hm
     omega
    .rw[<-h6,xJ]at hj
     split at hj
     .rw[Addr.add_lit,oV,cell_of_row w' g j cur _ _ h2,<-Array.getElem?_toList]
      exact hj
     .cases hj
theorem RepC.sl_nil{w:World}{X:List Nat}{u:Value}{s k:Nat}(h:RepC w X u (.sl s [])):RepC w X u (.sl k []):=by
 cases h with
 |sl A n cap s uss es hn hu hc hcap hmx hs hr =>
  exact .sl A n cap k uss [] hn hu hc hcap hmx (λi us e a b=>by simp at b) (λi us e a b=>by simp at b)
theorem Nw{P:Program}[Wld P]{f:FuncId}{xs:List AV}{s k:Nat}{es:List (List Cell)}{y:AV}(hn:noTup xs=true)(h:s=k\/es=[])(hd:Den P f xs (.tup [.c (.sl s es),y])):Den P f xs (.tup [.c (.sl k es),y]):=by
 rcases h with rfl|rfl
 .exact hd
 .obtain⟨hb,hd⟩:=hd.old hn
  refine Den.of ⟨hb,λw X vs hW hX hl hr=>(hd w X vs hW hX hl hr).mono ?_⟩ hn
  rintro e w' ⟨u,rfl,hR,hB⟩
  refine⟨u,rfl, ?_,hB⟩
  obtain⟨us,vs',G,h1,h2,h3,h4⟩:=hR
  rcases h1 with⟨rfl,h1⟩|⟨_,_,h1⟩
  .cases h1
   cases h4 with
   |d hd t =>
    cases hd with
    |c hc=>exact⟨_,_,G,.inl ⟨rfl,rfl⟩,h2,h3,.d (.c hc.sl_nil) t⟩
  .cases h1
theorem den_clone_own{P:Program}[Wld P]{ρ:Ren}(L:SlLaysE0.n41 P ρ)(hb:hasBody P (ρ.f 41)=true)(i0:TypeInfo)(z:Value){k:Nat}(hi:P.info? (ρ.t 23)=some i0)(hz0:i0.zero=some z)(hz1:i0.size=k)(hby:i0.bytes<=1000000)(hzs:z.cells.size=k)(hk:0<k)
 (z23:∀w,(Go.sizeOf (ρ.t 23)).run P w=.ok k w) {es:List (List Cell)} (hn:es.length<=1000000):Den P (ρ.f 41) [.c (.sl k es)] (.own (ρ.t 23) k es):=by
 refine Den.of ⟨hb,λw X vs hW hX hl hr=>?_⟩ rfl
 match vs,hl with
 |[u],_ =>
 have hu:RepC w X u (.sl k es):=by
  have:=hr 0 u _ rfl rfl
  cases this with
  |c h=>exact h
 obtain⟨A,cap,uss,rfl,hcap,hmx,hc,hS⟩:=RepS.of_sl hu
 have hone:∀us∈uss,∀u∈us,u.oneCell'=true:=λus hu=>by
  obtain⟨j,hj,rfl⟩:=Ew hu
  exact(hS.get j _ _ (gG hj) (gG (by rw[<-hS.len];exact hj))).one
 have hfl:uss.flatten.length=es.length*k:=by rw[flatten_len hS.sz,hS.len]
 cases A with
 |none =>
  have h0:uss.flatten=[]:=by
   by_cases h:uss.flatten=[]
   .exact h
   .obtain⟨ad,h1,_⟩:=hc h;cases h1
  rw[h0]at hfl
  have:es=[]:=by
   rcases qQ es.length with h|h
   .exact BG h
   .have:=Nat.mul_pos h hk;simp at hfl;omega
  subst this
  refine Calls.mono (AnyE.slices_Clone_nil L _ _ w) ?_
  rintro e w' ⟨rfl,rfl⟩
  exact⟨_,rfl,⟨[_],[_],[],.inr ⟨rfl,rfl,rfl⟩,η,List.nodup_nil,.own0 hk .nil⟩,Below.refl _ _⟩
 |some a =>
  refine Calls.mono (clone_at L i0 z k i0.bytes hi hz0 hz1 rfl hzs hk z23 a es.length cap uss.flatten w hfl (by unfold maxLen;omega) (aO (F9 hn hby) ω) (λj u hj=>?_) (λu hu=>?_)) ?_
  .obtain⟨ad,h1,_,_,h2⟩:=hc (λh=>by rw[h]at hj;cases hj)
   cases h1
   exact h2 j u hj
  .obtain⟨us,h1,h2⟩:=List.mem_flatten.1 hu
   exact hone us h1 u h2
  .rintro e w' ⟨v',rfl,hown,hB⟩
   refine⟨v',rfl, ?_,hB⟩
   rcases hown with⟨_,⟨rfl,h0⟩|⟨g,cap',cur,rfl,h1,h2,h3,h4,h5,h6⟩⟩
   .have:es=[]:=BG h0
    subst this
    exact⟨[_],[_],[],.inr ⟨rfl,rfl,rfl⟩,η,List.nodup_nil,.own0 hk .nil⟩
   .have hS':=hS.ext ((Ext.call X hB).add h1)
    have hcur:cur=(uss.flatten++cur.toList.drop (es.length*k)).toArray:=by rw[<-h6,IK]
    have hlen:(uss.flatten++cur.toList.drop (es.length*k)).length=cur.size:=by rw[<-h6,IK];simp
    exact⟨[_],[_],[g],.inr ⟨rfl,rfl,rfl⟩,by simpa using h1,η,.own hk (by rw[<-hcur];exact h2) hS' (by rw[hlen];exact h5.symm) h4 h3 .nil⟩
end Go.Sw
namespace Go.Sw
open Go
theorem Ry{a b c p:P2}(h:¬gu a b c=0):UF (ctr a b c) (Ia a b c) (!decide (0<gu a b c)) a c p=uy a b c p:=by
 obtain⟨e1,e2,e3,hq⟩:=Gl h
 rw[PI hq e1 e3]
 exact Gh h
theorem Xg{a b:P2}(h:(a.2-b.2)=0/\(b.1-a.1)=0):pE a b=true:=by
 unfold pE
 rw[decide_eq_true (show a.1=b.1 by grind),decide_eq_true (show a.2=b.2 by grind)];rfl
theorem Tt{e:Ent}{a b:P2}(hE:aA e=[a,b])(h:pE a b=true):packA [AV.int .i64 2]=AV.int .i64 (dO e:Nat):=by rw[uV hE h];rfl
theorem X4{l:ByteArray}{a b:P2}{r:Rq}(h:pE a b=false):packA [AV.int .i64 0]=AV.int .i64 (dO ⟨1,l,[a,b],r⟩:Nat):=by
 rw[lV (e:=⟨1,l,[a,b],r⟩) (a:=a) (b:=b) rfl h,if_neg (λg=>absurd g.1 (show¬(1:Int)=2 by decide))];rfl
theorem WT{l:ByteArray}{a m b:P2}{r:Rq}(h:pE a b=false)(h2:¬gu a m b=0):packA [AV.int .i64 0]=AV.int .i64 (dO ⟨2,l,[a,m,b],r⟩:Nat):=by
 rw[lV (e:=⟨2,l,[a,m,b],r⟩) (a:=a) (b:=b) rfl h,if_neg (λg=>h2 (by simpa[uK]using g.2))];rfl
theorem Xj{l:ByteArray}{a m b:P2}{r:Rq}(h:pE a b=false)(h2:gu a m b=0):packA [AV.int .i64 5]=AV.int .i64 (dO ⟨2,l,[a,m,b],r⟩:Nat):=by
 rw[lV (e:=⟨2,l,[a,m,b],r⟩) (a:=a) (b:=b) rfl h,if_pos ⟨rfl,by simpa[uK]using h2⟩];rfl
theorem X9{l:ByteArray}{a:P2}{r:Rq}:packA [AV.int .i64 0]=AV.int .i64 (dO ⟨3,l,[a],r⟩:Nat):=by
 rw[AQ (e:=⟨3,l,[a],r⟩) rfl,if_neg (λg=>absurd g.1 (show¬(3:Int)=2 by decide))];rfl
theorem Z9{l1 l2:ByteArray}{a b c d:P2}{r1 r2:Rq}(hl:(!(l1.toList == l2.toList))=false):nH [a,b] [c,d]=aY ⟨1,l1,[a,b],r1⟩ ⟨1,l2,[c,d],r2⟩:=by
 have h:(l1.toList == l2.toList)=true:=by simpa using hl
 rw[Et,h,BJ,ji,ji,ji,ji]
 unfold nH
 rw[vS]
 simp
theorem KR{e f:Ent}(hl:(!(e.layer.toList == f.layer.toList))=true):false=aY e f:=by
 have h:(e.layer.toList == f.layer.toList)=false:=by simpa using hl
 unfold aY eqS
 rw[h];rfl
theorem YL{l1 l2:ByteArray}{a c:P2}{q1 q2:Rat}(hl:(!(l1.toList == l2.toList))=false):(pE a c&&decide (q1=q2))=aY ⟨3,l1,[a],jD q1⟩ ⟨3,l2,[c],jD q2⟩:=by
 have h:(l1.toList == l2.toList)=true:=by simpa using hl
 rw[Dn,h,BJ]
theorem YB{l1 l2:ByteArray}{a m b c n d:P2}{r1 r2:Rq}(hl:(!(l1.toList == l2.toList))=false):(nH [a,m,b] [c,n,d] ||(nH [a,b] [c,d]&&(uy a m b n&&uy c n d m)))=aY ⟨2,l1,[a,m,b],r1⟩ ⟨2,l2,[c,n,d],r2⟩:=by
 have h:eqS l1 l2=true:=by have:(l1.toList == l2.toList)=true:=by simpa using hl
                           exact this
 rw[vS,Vk,jI]
 unfold sE
 simp only[h,true_and]
theorem rpS{l:List Ent}{x:Nat}(h:x<l.length):bJ (l.take (x+1))=bJ (l.take x)++[(l.take x).any λf=>aY f (l.getD x E0)]:=by
 rw[Bc h,Fe]
theorem anS{l:List Ent}{e:Ent}{y:Nat}(h:y<l.length):((l.take (y+1)).any λf=>aY f e)=(((l.take y).any λf=>aY f e)||aY (l.getD y E0) e):=by
 rw[Bc h,List.any_append];simp
theorem mZ{l:List Ent}(h:∀e∈l,okV e){x:Nat}(hx:x<l.length):okV (l.getD x E0):=h _ (ni hx)
@[reducible] def Oq(p:Nat × Nat):List Cell:=[.v (.int .i64 (p.1:Nat)),.v (.int .i64 (p.2:Nat))]
def KF(l:List Ent)(i n:Nat)(v:P2)(k j:Nat):Bool:=eqS (l.getD k E0).layer (l.getD i E0).layer&&((k != i||j != n)&&pE v ((aA (l.getD k E0)).getD j P0))
def Sz(l:List Ent)(i n:Nat)(v:P2)(k:Nat):Bool:=(List.range (aA (l.getD k E0)).length).any (KF l i n v k)
def Na(l:List Ent)(i n:Nat)(v:P2)(k m:Nat):Bool:=(List.range k).any (Sz l i n v) ||(List.range m).any (KF l i n v k)
theorem YT{l:List Ent}{i n k m:Nat}{v:P2}:Na l i n v k (m+1)=(Na l i n v k m||KF l i n v k m):=by
 unfold Na
 rw[Pn,List.any_append];simp[Bool.or_assoc]
theorem aax{l:List Ent}{i n k m:Nat}{v:P2}(h:m=(aA (l.getD k E0)).length):Na l i n v k m=Na l i n v (k+1) 0:=by
 subst h
 unfold Na
 rw[Pn,List.any_append];simp[Sz]
def Pm(l:List Ent)(i n:Nat):Bool:=Na l i n ((aA (l.getD i E0)).getD n P0) l.length 0
def E5(l:List Ent)(i n:Nat):List (Nat×Nat):=((List.range n).filter λk=>!Pm l i k).map λk=>(i,k)
def uD(l:List Ent)(x n:Nat):List (Nat×Nat):=((List.range x).flatMap λi=>E5 l i (aA (l.getD i E0)).length)++E5 l x n
def yT(l:List Ent):List (Nat×Nat):=uD l l.length 0
theorem YG{l:List Ent}{x n:Nat}(h:(!Pm l x n)=true):uD l x (n+1)=uD l x n++[(x,n)]:=by
 unfold uD E5
 rw[Pn,JV];simp[h]
theorem YN{l:List Ent}{x n:Nat}(h:(!Pm l x n)=false):uD l x (n+1)=uD l x n:=by
 unfold uD E5
 rw[Pn,JV];simp[h]
theorem Ur{l:List Ent}{x n:Nat}(h:n=(aA (l.getD x E0)).length):uD l x n=uD l (x+1) 0:=by
 subst h
 unfold uD
 rw[Pn,Nh];simp[E5]
theorem G6{l:List Ent}{i n:Nat}:(E5 l i n).length<=n:=by
 unfold E5
 rw[aG]
 have:=Xz (λk=>!Pm l i k) (List.range n)
 rwa [List.length_range]at this
theorem nK(e:Ent):(aA e).length<=2:=by have:=rJ e;omega
theorem vI{l:List Ent}:∀(x:Nat) {n:Nat},(uD l x n).length<=2*x+n
 |0,n=>by have:=G6 (l:=l) (i:=0) (n:=n);unfold uD;simpa using this
 |x+1,n=>by
  have h1:=vI (l:=l) x (n:=(aA (l.getD x E0)).length)
  rw[Ur rfl]at h1
  have h2:uD l (x+1) n=uD l (x+1) 0++E5 l (x+1) n:=by unfold uD;simp[E5]
  have h3:=G6 (l:=l) (i:=x+1) (n:=n)
  have h4:=nK (l.getD x E0)
  rw[h2,bD];omega
theorem OV{l:List Ent}{x:Nat}(h:x<l.length):l.zipIdx.getD x N0=(l.getD x E0,x):=by
 simp[iC,h]
theorem IE{l:List Ent}{i n:Nat}{v:P2}(hi:i<l.length):nO l.zipIdx (l.getD i E0).layer i n v=Na l i n v l.length 0:=by
 unfold nO Na
 rw[PK]
 simp only[List.range_zero,List.any_nil,EX]
 rw[vS,Oe,Oe]
 have key:∀k<l.length,metAt l.zipIdx (l.getD i E0).layer i n v k=Sz l i n v k:=λk hk=>by
  have hz:=OV hk
  unfold Sz
  rcases iY (l.getD k E0)with hE|⟨a,b,hE⟩
  .rw[zK (by rw[PK];exact hk) (by rw[hz];exact hE),hE];rfl
  .rw[zA (by rw[PK];exact hk) (by rw[hz];exact hE),hE,hz]
   simp only[aZ,bF,Pn,List.range_zero,mX,List.any_append,List.any_cons,List.any_nil,EX,KF,hE,List.getD_cons_zero,List.getD_cons_succ,ji]
   cases eqS (l.getD k E0).layer (l.getD i E0).layer<;>simp
 constructor
 .rintro ⟨k,hk,h⟩
  exact⟨k,hk,by rw[<-key k (by simpa using hk)];exact h⟩
 .rintro ⟨k,hk,h⟩
  exact⟨k,hk,by rw[key k (by simpa using hk)];exact h⟩
end Go.Sw
