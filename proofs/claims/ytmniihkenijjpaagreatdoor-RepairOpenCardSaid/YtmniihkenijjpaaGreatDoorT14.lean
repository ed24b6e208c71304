/-
  Rules of the abstract run, plain laws, and what functions answer, for the law RepairOpen.
  Conditions: none.
-/
import Derived.Test.YtmniihkenijjpaaGreatDoorT13
import Derived.Lib.Itoa
import Derived.Lib.Walk
import Derived.Shelf.Strconv.Itoa1
import Derived.Lib.ItoaNum
import Derived.Lib.ItoaLen
import Derived.Lib.AppendStr
import Derived.Shelf.SlicesE.Clone
set_option linter.all false
namespace Go.Sw
open Go Go.RowKit
theorem laid_mem{P:Program}{w:World}:∀{l:List (String×DataW Unit)} {ps:List MemPlace},DataW.LaidVars P w l ps→∀x∈l,∃g t cs fuel p,P.globalNamed x.1=some g∧(P.globals[g]?).map (·.type)=some t∧w.var? P x.1=some cs∧DataW.trod (λ_=>()) P w 0 (λ_=>true) false fuel t cs.toList=some (x.2,p)
 |[],_,_,x,hx=>by cases hx
 |(n,d)::r,ps,h,x,hx=>by
  obtain⟨g,t,cs,fuel,p,q,h1,h2,h3,h4,h5,_⟩:=h;rcases wL.1 hx with rfl|hx
  ·exact⟨g,t,cs,fuel,p,h1,h2,h3,h4⟩
  ·exact laid_mem h5 x hx
theorem tab_of{P:Program}{W:World}{l:List (String×DataW Unit)}{nm:String}{k:IntKind}{zs:List Int}{g:Nat}{t e:TypeId}(h:laidMet P l W)(hm:(nm,DataW.agg (zs.map λz => .lit (.int k z)))∈l)
 (hg:P.globalNamed nm=some g) (htg:(P.globals[g]?).map (·.type)=some t) (ht:P.underlying t=some (.array zs.length e)) (he:P.underlying e=some (.int k)) (ce:P.cellsOf e=1) (ct:P.cellsOf t=zs.length):Lib.TabIs P W nm k zs:=by
 obtain⟨ps,hl,_⟩:=h;obtain⟨g0,t0,cs,fuel,p,hg0,ht0,hv,hd⟩:=laid_mem hl _ hm;obtain rfl:=TM (hg.symm.trans hg0);obtain rfl:=TM (htg.symm.trans ht0);obtain⟨xs,m,_,ex,hlen,hxl,hel⟩:=DataW.trod_array ht hd
 have e1:zs.map (λz=>DataW.lit (.int k z))=xs.map (·.1):=by
  have:=(Prod.mk.inj ex).1;exact DataW.agg.inj this
 unfold Lib.TabIs;rw[hv];congr 1;apply Gt;rw[List.toArray];show cs.toList=zs.map (Value.int k);apply List.ext_getElem
 ·rw[hlen,ct,bK]
 ·intro i h1 h2;have hi:i<zs.length:=by simpa using h2
  have h3:=hel i hi;rw[ce,Va]at h3;have hx:xs[i]?=some xs[i]:=jP (by omega);rw[hx]at h3;obtain⟨n,a,b,_⟩:=DataW.trod_int he h3;have h4:(zs.map (λz=>DataW.lit (H:=Unit) (.int k z)))[i]?=(xs.map (·.1))[i]?:=by rw[e1]
  rw[DK,DK,jP hi,hx,b]at h4;simp at h4
  have h5:cs.toList[i]?=some (.int k n):=by
   have:((cs.toList.drop i).take 1)[0]?=some (.int k n):=by rw[a];rfl
   rw[Fe,if_pos (by omega),Nq,TU]at this;exact this
  rw[jP h1]at h5;rw[TM h5,List.getElem_map,h4]
theorem tab_keep{P:Program}{w w':World}{nm:String}{k:IntKind}{zs:List Int}(h:Lib.TabIs P w nm k zs)(hb:Below w.heap.size w w'):Lib.TabIs P w' nm k zs:=by
 unfold Lib.TabIs World.var? at h ⊢;cases hg:P.globalNamed nm with
 |none=>rw[hg]at h;cases h
 |some g =>
  rw[hg]at h;simp only[TN]at h ⊢
  have hl:g<w.heap.size:=by
   rcases EW g w.heap.size with h'|h'
   ·exact h'
   ·rw[Array.getElem?_eq_none h']at h;cases h
  rw[hb.block g hl];exact h
end Go.Sw
namespace Go.Sw
open Go Go.Lib
def qC:Nat→Nat→List UInt8
 |0,_=>[]
 |k+1,n=>qC k (n/10)++[UInt8.ofNat (48+n%10)]
theorem DR:∀(k n:Nat),(qC k n).length=k
 |0,_=>rfl
 |k+1,n=>by rw[qC,gY,DR k];rfl
theorem nR{n:Nat}(h:n<10):decDigits n=[UInt8.ofNat (48+n)]:=by rw[decDigits,dif_pos h]
theorem Ce{n:Nat}(h:¬n<10):decDigits n=decDigits (n/10)++[UInt8.ofNat (48+n%10)]:=by rw[decDigits,dif_neg h]
theorem Qs(n:Nat):0<(decDigits n).length:=by rw[decDigits_length];exact nDigits_pos n
theorem Qa:∀(k a x:Nat),0<a→x<10^k→decDigits (a*10^k+x)=decDigits a++qC k x
 |0,a,x,ha,hx=>by
  have:x=0:=by simpa using hx
  subst this;simp[qC]
 |k+1,a,x,ha,hx=>by
  have hp:10^(k+1)=10^k*10:=Ar 10 k;have h1:0<10^k:=Nat.pow_pos (by decide);have e:a*10^(k+1)+x=(a*10^k)*10+x:=by rw[hp,VX]
  have hge:¬(a*10^(k+1)+x)<10:=by
   have:=Nat.mul_pos ha h1;omega
  have hd:(a*10^(k+1)+x)/10=a*10^k+x/10:=by omega
  have hm:(a*10^(k+1)+x)%10=x%10:=by omega
  rw[Ce hge,hd,hm,Qa k a (x/10) ha (by omega),qC,o8]
theorem CG:∀(k n:Nat),0<k→n<10^k→qC k n=List.replicate (k-nDigits n) 48++decDigits n
 |0,n,hk,_=>absurd hk (by decide)
 |1,n,_,h=>by
  have h:n<10:=by simpa using h
  rw[nDigits_small h,nR h];simp[qC,Qw h]
 |k+2,n,_,h=>by
  have hp:10^(k+2)=10^(k+1)*10:=Ar 10 (k+1);rw[qC,CG (k+1) (n/10) (by omega) (by omega)]
  by_cases h10:n<10
  ·have h0:n/10=0:=by omega
   rw[h0,nDigits_small h10,nDigits_small (show 0<10 by decide),nR h10,nR (show 0<10 by decide),Qw h10];rw[show k+2-1=(k+1-1)+1 by omega,List.replicate_succ'];rfl
  ·rw[nDigits_big h10,Ce h10,show k+2-(nDigits (n/10)+1)=k+1-nDigits (n/10) by omega,o8]
theorem wJ{k n:Nat}(hk:0<k)(h:n<10^k):nDigits n≤k:=by
 have h1:=DR k n;rw[CG k n hk h,gY,BI,decDigits_length]at h1;omega
theorem SG:∀(j k n:Nat),qC (k+j) n=qC k (n/10^j)++qC j n
 |0,k,n=>by simp[qC]
 |j+1,k,n=>by
  show qC (k+j+1) n=_;rw[qC,SG j k (n/10),qC,lD,←Nat.pow_succ',o8]
theorem Zc:∀(n:Nat),0<n→∃d r,decDigits n=d::r∧d≠48
 |n,hn=>by
  induction n using Nat.strongRecOn with
  |_ n ih =>
   by_cases h:n<10
   ·refine⟨_,_,nR h,λe=>?_⟩;have:n=1∨n=2∨n=3∨n=4∨n=5∨n=6∨n=7∨n=8∨n=9:=by omega
    rcases this with rfl|rfl|rfl|rfl|rfl|rfl|rfl|rfl|rfl<;>revert e<;>decide
   ·obtain⟨d,r,h1,h2⟩:=ih (n/10) (by omega) (by omega);exact⟨d,r++[UInt8.ofNat (48+n%10)],by rw[Ce h,h1];rfl,h2⟩
def sV(n:Nat):ByteArray:=⟨(decDigits n).toArray⟩
def mQ(n:Int):ByteArray:=⟨((if n<0 then[45]else[])++decDigits n.natAbs).toArray⟩
def JD(n:Nat):List Nat:=(decDigits n).map λb=>b.toNat
theorem Vt{k:Nat}(h:k<10):(UInt8.ofNat (48+k)).toNat=48+k:=by
 have:k=0∨k=1∨k=2∨k=3∨k=4∨k=5∨k=6∨k=7∨k=8∨k=9:=by omega
 rcases this with rfl|rfl|rfl|rfl|rfl|rfl|rfl|rfl|rfl|rfl<;>rfl
theorem zi{n:Nat}(h:n<10):JD n=[48+n]:=by unfold JD;rw[nR h,gB,Vt h];rfl
theorem Sz{n:Nat}(h:¬n<10):JD n=JD (n/10)++[48+n%10]:=by
 unfold JD;rw[Ce h,fO,gB,Vt (sK _ (by decide))];rfl
theorem ah7(n:Nat):AQ (JD n)=n:=by
 induction n using Nat.strongRecOn with
 |_ n ih =>
  by_cases h:n<10
  ·rw[zi h];simp[AQ]
  ·rw[Sz h,TW,ih (n/10) (by omega)];omega
theorem aej(n:Nat):∀c∈JD n,48≤c∧c≤57:=by
 induction n using Nat.strongRecOn with
 |_ n ih =>
  intro c hc
  by_cases h:n<10
  ·rw[zi h]at hc;simp at hc;omega
  ·rw[Sz h]at hc;rcases oG.1 hc with g|g
   ·exact ih (n/10) (by omega) c g
   ·simp at g;omega
theorem ZL(n:Nat):(JD n).length=nDigits n:=by unfold JD;rw[bK,decDigits_length]
theorem WT{n:Nat}(h:0<n):(JD n).getD 0 0≠48:=by
 obtain⟨d,r,h1,h2⟩:=Zc n h;unfold JD;rw[h1];show d.toNat≠48;intro e;exact h2 (UInt8.toNat_inj.1 (by rw[e];rfl))
theorem Xu(l:List UInt8):pO ⟨l.toArray⟩=l.map λb=>b.toNat:=rfl
theorem yc(n:Int):pO (mQ n)=(if n<0 then[45]else[])++JD n.natAbs:=by
 unfold mQ;rw[Xu,fO];congr 1;split<;>rfl
theorem ac7(n:Nat):(JD n).take 1≠[45]:=by
 intro e;have h:45∈JD n:=qb9 (i:=1) (by rw[e];exact AL.2 rfl);have:=(aej n 45 h).1;omega
theorem zo(n:Int):(mQ n).size=(if n<0 then 1 else 0)+nDigits n.natAbs:=by
 rw[←lZ,yc,gY,ZL];congr 1;split<;>rfl
theorem aaD(a b:ByteArray):pO (a++b)=pO a++pO b:=by
 unfold pO;rw[ByteArray.data_append,Array.toList_append,fO]
theorem IQ:∀(i m:Nat),(lim m).getD i 0=m/1000000000^i%1000000000
 |0,m=>by
  by_cases h:m=0
  ·subst h;rw[fA];rfl
  ·rw[lq h];simp
 |i+1,m=>by
  by_cases h:m=0
  ·subst h;simp[fA]
  ·rw[lq h,List.getD_cons_succ,IQ i,lD,←Nat.pow_succ']
theorem VA:∀(i m:Nat),i<(lim m).length→0<m/1000000000^i
 |0,m,h=>by
  have:m≠0:=λe=>by subst e;rw[fA]at h;exact absurd h (by decide)
  simp;omega
 |i+1,m,h=>by
  have:m≠0:=λe=>by subst e;rw[fA]at h;exact absurd h (by simp)
  rw[lq this,iH]at h;have:=VA i (m/1000000000) (by omega)
  rwa [lD,←Nat.pow_succ']at this
theorem BO(m:Nat):m<1000000000^(lim m).length:=by
 have:=gG (lim m) (aX m)
 rwa [aF]at this
theorem adA{i m:Nat}(h:i<(lim m).length):(lim m)[i]?=some (m/1000000000^i%1000000000):=by
 have:=IQ i m;rw[ou,jP h]at this;rw[jP h];exact congrArg some this
theorem JH{m:Nat}(h:0<(lim m).length):m/1000000000^((lim m).length-1)%1000000000=m/1000000000^((lim m).length-1):=by
 apply Qw;apply Nat.div_lt_of_lt_mul;have:=BO m
 rwa [←Ar,show((lim m).length-1).succ=(lim m).length by omega]
theorem Lc{m i:Nat}(h:i+1<(lim m).length):
 decDigits (m/1000000000^i)=decDigits (m/1000000000^(i+1))++List.replicate (9-nDigits (m/1000000000^i%1000000000)) 48++decDigits (m/1000000000^i%1000000000):=by
 have h1:=VA (i+1) m h;have hx:m/1000000000^i%1000000000<10^9:=sK _ (by decide);have e:m/1000000000^(i+1)=m/1000000000^i/1000000000:=by rw[lD,Ar]
 rw[o8,←CG 9 _ (by decide) hx,←Qa 9 _ _ h1 hx,e];congr 1;have:=Nat.div_add_mod (m/1000000000^i) 1000000000;omega
theorem Lu{m i:Nat}(h:0<(lim m).length):(decDigits (m/1000000000^i)).length≤9*(lim m).length:=by
 rw[decDigits_length];apply wJ (by omega);refine dA (QV _ _) ?_;rw[Nat.pow_mul];exact BO m
theorem Cj{x:Nat}(h:x<1000000000):1≤nDigits x∧nDigits x≤9:=⟨nDigits_pos x,wJ (by decide) h⟩
def bv(l:List UInt8):List Value:=l.map λb => .int .u8 (b.toNat:Int)
theorem XY(l:List UInt8):(bv l).length=l.length:=by unfold bv;simp
theorem zJ(a b:List UInt8):bv (a++b)=bv a++bv b:=by unfold bv;rw[fO]
theorem Yp(l:List UInt8):strCells ⟨l.toArray⟩=bv l:=rfl
theorem uM(n:Nat):(sV n).size=nDigits n:=by
 show(decDigits n).toArray.size=_;rw[UF,decDigits_length]
end Go.Sw
namespace Go.Sw
open Go Go.Lib Go.RowKit
def yX(d m:Nat):ByteArray:=⟨(qC d m).toArray⟩
def Nr(j m:Nat):ByteArray:=⟨(List.replicate j 48++decDigits m).toArray⟩
theorem UJ(d m:Nat):(yX d m).size=d:=by
 show(qC d m).toArray.size=d;rw[UF,DR]
theorem Q9{k:Nat}(h:k<10):Utf8.encode ((48+k:Nat):Int)=⟨#[UInt8.ofNat (48+k)]⟩:=by
 have:k=0∨k=1∨k=2∨k=3∨k=4∨k=5∨k=6∨k=7∨k=8∨k=9:=by omega
 rcases this with rfl|rfl|rfl|rfl|rfl|rfl|rfl|rfl|rfl|rfl<;>decide +kernel
theorem Xx{m x k:Nat}(hk:k<9):m/1000000000^x%1000000000/10^k%10=m/10^(9*x+k)%10:=by
 have e:m/10^(9*x+k)=m/1000000000^x/10^k:=by rw[lD,Nat.pow_add,Nat.pow_mul]
 rw[e];generalize m/1000000000^x=a;have h9:(1000000000:Nat)=10^k*10^(9-k):=by rw[←Nat.pow_add,show k+(9-k)=9 by omega]
 rw[h9,Nat.mod_mul_right_div_self];exact Nat.mod_mod_of_dvd _ ⟨10^(8-k),by rw[←Nat.pow_succ',show(8-k).succ=9-k by omega]⟩
theorem Vk(d m:Nat):qC (d+1) m=UInt8.ofNat (48+m/10^d%10)::qC d m:=by
 rw[Nat.add_comm d 1,SG d 1 m];rfl
theorem L6{m x k:Nat}(hk:k<9):IntKind.i32.wrap (IntKind.u32.wrap (48+(((m/1000000000^x%1000000000/10^k:Nat):Int)).tmod 10))=((48+m/10^(9*x+k)%10:Nat):Int):=by
 rw[←Xx hk];generalize m/1000000000^x%1000000000/10^k=q;rw[Int.tmod_eq_emod_of_nonneg (Int.natCast_nonneg q),IntKind.wrap_u32,IntKind.wrap_i32];omega
theorem aax{m x k:Nat}(hk:k<9):
 some (AV.c (Cell.v (.string (Utf8.encode (IntKind.i32.wrap (IntKind.u32.wrap (48+(((m/1000000000^x%1000000000/10^k:Nat):Int)).tmod 10)))++yX (9*x+k) m))))=some (AV.str (yX (9*x+(k+1)) m)):=by
 have:Utf8.encode (IntKind.i32.wrap (IntKind.u32.wrap (48+(((m/1000000000^x%1000000000/10^k:Nat):Int)).tmod 10)))++yX (9*x+k) m=yX (9*x+(k+1)) m:=by
  rw[L6 hk,Q9 (sK _ (by decide))];unfold yX;rw[←Nat.add_assoc,Vk,ByteArray.ext_iff,ByteArray.data_append];simp
 rw[this]
theorem aeT{m x k:Nat}(hk:k<9):(Utf8.encode (IntKind.i32.wrap (IntKind.u32.wrap (48+(((m/1000000000^x%1000000000/10^k:Nat):Int)).tmod 10)))).size=1:=by
 rw[L6 hk,Q9 (sK _ (by decide))];rfl
theorem aaL{m x k:Nat}:IntKind.u32.wrap (((m/1000000000^x%1000000000/10^k:Nat):Int).tdiv 10)=((m/1000000000^x%1000000000/10^(k+1):Nat):Int):=by
 have h1:m/1000000000^x%1000000000/10^k≤m/1000000000^x%1000000000:=QV _ _;have h2:=sK (m/1000000000^x) (show 0<1000000000 by decide);rw[Ar,←lD];generalize m/1000000000^x%1000000000/10^k=q at h1 ⊢;rw[Int.tdiv_eq_ediv_of_nonneg (Int.natCast_nonneg q),IntKind.wrap_u32];omega
theorem aae(m x:Nat):some (AV.c (Cell.v (u32 ((lim m).getD x 0))))=some (AV.int .u32 ((m/1000000000^x%1000000000/10^0:Nat):Int)):=by
 rw[IQ,Nat.pow_zero,Nat.div_one];rfl
theorem Z4{m x k:Nat}(h1:k≤9)(h2:¬(k:Int)<9):some (AV.str (yX (9*x+k) m))=some (AV.str (yX (9*(x+1)) m)):=by rw[show 9*x+k=9*(x+1) by omega]
theorem aaC{m:Nat}(h:0<(lim m).length):yX (9*(lim m).length) m=Nr (9*(lim m).length-nDigits m) m:=by
 unfold yX Nr;rw[CG _ _ (by omega) (by rw[Nat.pow_mul];exact BO m)]
theorem ZM{m x:Nat}(h:0<(lim m).length)(h1:x≤(lim m).length)(h2:¬(x:Int)<((lim m).length:Nat)):some (AV.str (yX (9*x) m))=some (AV.str (Nr (9*(lim m).length-nDigits m) m)):=by rw[show x=(lim m).length by omega,aaC h]
theorem JO(j m:Nat):(Nr j m).size=j+nDigits m:=by
 show(List.replicate j 48++decDigits m).toArray.size=_;rw[UF,gY,BI,decDigits_length]
theorem yT(j m:Nat):pO (Nr j m)=List.replicate j 48++JD m:=by
 unfold Nr;rw[Xu,fO,List.map_replicate];rfl
theorem acX{j m:Nat}(hm:0<m)(h:¬(((pO (Nr j m)).getD 0 0:Nat):Int)=48):j=0:=by
 cases j with
 |zero=>rfl
 |succ j=>rw[yT,List.replicate_succ]at h;exact absurd rfl h
theorem akc{j m:Nat}(hm:0<m)(h:(((pO (Nr j m)).getD 0 0:Nat):Int)=48):0<j:=by
 cases j with
 |zero =>
  rw[yT,List.replicate_zero,sS]at h;exact absurd (by omega) (WT hm)
 |succ j=>omega
theorem afb{j m:Nat}(h:0<j):(Nr j m).extract 1 (Nr j m).size=Nr (j-1) m:=by
 apply xI;rw[ZI,show(Nr j m).size=(pO (Nr j m)).length from(lZ _).symm,ER,yT,yT];cases j with
 |zero=>exact absurd h (by decide)
 |succ j=>rfl
theorem Vh{n:Int}(h:n<0):(⟨#[45]⟩:ByteArray)++Nr 0 n.natAbs=mQ n:=by
 apply xI;rw[aaD,yT,yc,if_pos h];rfl
theorem VL{n:Int}(h:¬n<0):Nr 0 n.natAbs=mQ n:=by
 apply xI;rw[yT,yc,if_neg h];rfl
theorem adF:(⟨#[48]⟩:ByteArray)=mQ 0:=by
 apply xI;rw[yc,show(0:Int).natAbs=0 from rfl,zi (by decide)];rfl
theorem YG{n:Int}{k:Nat}(h:sz n≤k)(hk:0<k):nDigits n.natAbs≤9*k:=by
 apply wJ (by omega);refine Jz (BO n.natAbs) ?_;rw[Nat.pow_mul];exact Jw (by decide) h
theorem aaf{n:Int}{k:Nat}(h:sz n≤k)(hk:0<k):(mQ n).size≤9*k+1:=by
 have:=YG h hk;rw[zo];split<;>omega
end Go.Sw
namespace Go.Sw
open Go
structure EntR where
 kind:Int
 layer:ByteArray
 pts:List (Rq×Rq)
 rad:Rq
structure LayD where
 name:ByteArray
 kind:Int
 depth:Int
@[reducible] def bD(r:Rq):List Cell:=[.v (.bool r.a),lmc r.l,.v (.bool r.b),lmc r.m]
@[reducible] def pV(p:Rq × Rq):List Cell:=[.v (.bool p.1.a),lmc p.1.l,.v (.bool p.1.b),lmc p.1.m,.v (.bool p.2.a),lmc p.2.l,.v (.bool p.2.b),lmc p.2.m]
@[reducible] def dP(e:EntR):List Cell:=[.v (.int .i64 e.kind),.v (.string e.layer),.sl 8 (e.pts.map pV),.v (.bool e.rad.a),lmc e.rad.l,.v (.bool e.rad.b),lmc e.rad.m]
@[reducible] def dI(l:LayD):List Cell:=[.v (.string l.name),.v (.int .i64 l.kind),.v (.int .i64 l.depth)]
def vR(r:Rq):Bool:=ana r.a r.l r.b r.m
def qR(r:Rq):Rat:=((eH r.a (val r.l):Int):Rat)/((eH r.b (val r.m):Int):Rat)
def Ip(r:Rq):Prop:=r.l.length≤6∧r.m.length≤6
theorem WI(q:Rat):((q.num:Int):Rat)/((q.den:Int):Rat)=q:=by
 have h:=Rat.num_divInt_den q
 rwa [Rat.divInt_eq_div]at h
theorem V5(q:Rat):qR (qI q)=q:=by
 unfold qR qI;simp only;rw[aF,BU,aF,BU,WI]
theorem En{r:Rq}(h:vR r=true):r=qI (qR r):=by
 obtain⟨q,h1,h2,h3,h4⟩:=TJ h;obtain⟨a,l,b,m⟩:=r;simp only at h1 h2 h3 h4;subst h1 h2 h3 h4;exact(congrArg qI (V5 q)).symm
theorem D6{q:Rat}(h:Ip (qI q)):rz q≤12:=by
 obtain⟨h1,h2⟩:=h;have h1':(lim q.num.natAbs).length≤6:=h1;have h2':(lim (q.den:Int).natAbs).length≤6:=h2;unfold rz sz;omega
@[reducible] def Gp:Rat:=((1:Int):Rat) / ((1000:Int):Rat)
def Zk(a:Rat):Option Nat:=(List.range 31).find? λn=>decide (10^n%a.den=0)
def MP(q:Rat):Bool:=decide (¬((10000000:Int):Rat)<q)&&(decide (¬q < -((10000000:Int):Rat))&&(Zk (q*Gp)).isSome)
def iY(r:Rq):Bool:=vR r&&MP (qR r)
def nH(e:EntR):Bool:=decide (e.kind=1∧e.pts.length=2∨e.kind=2∧e.pts.length=3∨e.kind=3∧e.pts.length=1)&&(e.pts.all (λp=>iY p.1&&iY p.2)&&(decide (¬e.kind=3) ||(iY e.rad&&decide (0<qR e.rad))))
def pJ(e:EntR):Prop:=(∀p∈e.pts,Ip p.1∧Ip p.2)∧Ip e.rad∧e.pts.length≤5∧e.layer.size≤60
def bJ(c:Nat):Bool:=decide (97≤c∧c≤122)||decide (65≤c∧c≤90)
def uD(c:Nat):Bool:=decide (48≤c∧c≤57)
def UZ(c:Nat):Bool:=bJ c ||(uD c ||(decide (c=95)||decide (c=45)))
def oN(s:ByteArray):Nat:=((pO s).takeWhile UZ).length
def IE(s:ByteArray):Bool:=decide (0<s.size)&&(decide (s.size≤24)&&(bJ ((pO s).getD 0 0)&&decide (oN s=s.size)))
theorem acI(p:Nat→Bool):∀(l:List Nat) (x:Nat),x≤l.length→(∀j<x,p (l.getD j 0)=true)→(x<l.length→p (l.getD x 0)=false)→(l.takeWhile p).length=x
 |[],x,h,_,_=>by simp at h;subst h;rfl
 |c::r,0,_,_,h2=>by
  have:=h2 (by simp);simp only[List.getD_cons_zero]at this;simp[List.takeWhile_cons,this]
 |c::r,x+1,h,h1,h2=>by
  have h3:=h1 0 (by omega);simp only[List.getD_cons_zero]at h3;rw[List.takeWhile_cons,if_pos h3,iH];rw[acI p r x (by simpa using h) (λj hj=>by simpa using h1 (j+1) (by omega)) (λhx=>by simpa using h2 (by simpa using hx))]
theorem Vo{s:ByteArray}{x:Nat}(h:x≤s.size)(h1:∀j<x,UZ ((pO s).getD j 0)=true)(h2:x<s.size→UZ ((pO s).getD x 0)=false):oN s=x :=
 acI UZ (pO s) x (by rw[lZ];exact h) h1 (λhx=>h2 (by rwa [lZ]at hx))
theorem Y1{s:ByteArray}(h:(!(s.toList ==(ByteArray.mk #[]).toList))=true):0<s.size:=by
 rw[vH]at h;have h1:¬pO s=pO (ByteArray.mk #[]):=by simpa using h
 refine Decidable.byContradiction λhn=>h1 ?_
 have:(pO s).length=0:=by rw[lZ];omega
 rw[Nl this];rfl
theorem ZX{s:ByteArray}(h:(!(s.toList ==(ByteArray.mk #[]).toList))=false):s.size=0:=by
 rw[vH]at h;have h1:pO s=pO (ByteArray.mk #[]):=by simpa using h
 rw[←lZ,h1];rfl
theorem aez{s:ByteArray}(h:s.size=0∨¬s.size≤24∨bJ ((pO s).getD 0 0)=false):IE s=false:=by
 unfold IE;rcases h with h|h|h
 ·rw[h];rfl
 ·rw[decide_eq_false h];simp
 ·rw[h];simp
theorem adO{s:ByteArray}(h1:0<s.size)(h2:s.size≤24)(h3:bJ ((pO s).getD 0 0)=true):IE s=decide (oN s=s.size):=by
 unfold IE;rw[decide_eq_true h1,decide_eq_true h2,h3];simp
def Du(l:LayD):Bool:=IE l.name&&decide (((l.kind=1∨l.kind=3)∧1≤l.depth∧l.depth≤10000000)∨((l.kind=2∨l.kind=4)∧l.depth=0))
def Nw{α:Type}(n:Nat)(f:Nat→Option α):Option α:=(List.range n).findSome? f
theorem uP{α:Type}{n:Nat}{f:Nat→Option α}(h:∀j<n,f j=none):Nw n f=none:=by
 unfold Nw;rw[List.findSome?_eq_none_iff];intro x hx;exact h x (by simpa using hx)
theorem xX{α:Type}{f:Nat→Option α}{x:Nat}{r:α}:∀{n:Nat},x<n→(∀j<x,f j=none)→f x=some r→Nw n f=some r
 |0,hx,_,_=>by omega
 |n+1,hx,h,hr=>by
  unfold Nw;rw[U0,List.findSome?_append];rcases EW x n with h1|h1
  ·have:=xX (n:=n) h1 h hr;unfold Nw at this;rw[this];rfl
  ·have:x=n:=by omega
   subst this;have h2:=uP h;unfold Nw at h2;rw[h2,List.findSome?_cons,hr];rfl
theorem dR{p:Nat→Prop}{x:Nat}(h:∀j<x,p j)(h1:p x):∀j<x+1,p j:=λj hj=>by
 rcases EW j x with g|g
 ·exact h j g
 ·have:j=x:=by omega
  subst this;exact h1
def L0:LayD:=⟨⟨#[]⟩,0,0⟩
def wK:EntR:=⟨0,⟨#[]⟩,[],⟨false,[],false,[]⟩⟩
def sG(ls:List LayD)(s:ByteArray):Int:=match Nw ls.length (λi=>if eqS (ls.getD i L0).name s=true then some i else none)with
 |some i=>((i:Nat):Int)
 |none=>-1
theorem A8{ls:List LayD}{s:ByteArray}{x:Nat}(hx:x<ls.length)(h:∀j<x,eqS (ls.getD j L0).name s=false)(h1:eqS (ls.getD x L0).name s=true):sG ls s=(x:Nat):=by
 unfold sG;rw[xX (x:=x) (r:=x) hx (λj hj=>by rw[h j hj];rfl) (by rw[h1];rfl)]
theorem Xo{ls:List LayD}{s:ByteArray}(h:∀j<ls.length,eqS (ls.getD j L0).name s=false):sG ls s = -1:=by
 unfold sG;rw[uP (λj hj=>by rw[h j hj];rfl)]
theorem Fp(ls:List LayD)(s:ByteArray):∀n≤ls.length,(∀j<n,eqS (ls.getD j L0).name s=false)∨∃x<n,(∀j<x,eqS (ls.getD j L0).name s=false)∧eqS (ls.getD x L0).name s=true
 |0,_ => .inl λj hj=>absurd hj (Jr _)
 |n+1,h=>by
  rcases Fp ls s n (by omega)with g|⟨x,g1,g2,g3⟩
  ·cases e:eqS (ls.getD n L0).name s with
   |false=>exact .inl (dR g e)
   |true=>exact .inr ⟨n,by omega,g,e⟩
  ·exact .inr ⟨x,by omega,g2,g3⟩
def qM(ls:List LayD)(i:Nat):Option Int:=if Du (ls.getD i L0)=false then some 1 else if sG ls (ls.getD i L0).name<i then some 5 else none
def vZ(ls:List LayD):Int:=if Du (ls.getD (ls.length-1) L0)=false then 1 else if sG ls (ls.getD (ls.length-1) L0).name<((ls.length-1:Nat):Int)then 5 else 0
theorem getD_take'{α:Type}{l:List α}{d:α}{i n:Nat}(h:i<n):(l.take n).getD i d=l.getD i d:=by
 simp[ou,h,Fe]
theorem X9{ls:List LayD}{i:Nat}(h:i<ls.length):sG (ls.take (i+1)) (ls.getD i L0).name=sG ls (ls.getD i L0).name:=by
 have hl:(ls.take (i+1)).length=i+1:=by simp;omega
 have hself:eqS (ls.getD i L0).name (ls.getD i L0).name=true:=by unfold eqS;simp
 rcases Fp ls (ls.getD i L0).name (i+1) (by omega)with g|⟨x,g1,g2,g3⟩
 ·have:=g i (by omega);rw[hself]at this;cases this
 ·rw[A8 (x:=x) (by omega) g2 g3];exact A8 (by omega) (λj hj=>by rw[getD_take' (by omega)];exact g2 j hj) (by rw[getD_take' g1];exact g3)
theorem Oh{ls:List LayD}{i:Nat}(h:i<ls.length):vZ (ls.take (i+1))=(qM ls i).getD 0:=by
 have hl:(ls.take (i+1)).length=i+1:=by simp;omega
 unfold vZ qM;rw[hl,show i+1-1=i by omega,getD_take' (by omega),X9 h];split
 ·rfl
 ·split<;>rfl
def sH(ls:List LayD)(es:List EntR)(i:Nat):Option Int:=if sG ls (es.getD i wK).layer<0 then some 4 else if nH (es.getD i wK)=false then some 1 else none
def kG(ls:List LayD)(es:List EntR):Int :=
 if 20<ls.length∨200<es.length then 3
 else match Nw ls.length (qM ls)with
  |some r=>r
  |none=>match Nw es.length (sH ls es)with
   |some r=>r
   |none=>0
theorem QT{ls:List LayD}{es:List EntR}(h:20<ls.length∨200<es.length):kG ls es=3:=by unfold kG;rw[if_pos h]
theorem Ie{ls:List LayD}{es:List EntR}{x:Nat}{r:Int}(h:¬(20<ls.length∨200<es.length))(hx:x<ls.length)(h1:∀j<x,qM ls j=none)(h2:qM ls x=some r):kG ls es=r:=by
 unfold kG;rw[if_neg h,xX hx h1 h2]
theorem Iq{ls:List LayD}{es:List EntR}{x:Nat}{r:Int}(h:¬(20<ls.length∨200<es.length))(h0:∀j<ls.length,qM ls j=none)(hx:x<es.length)(h1:∀j<x,sH ls es j=none)(h2:sH ls es x=some r):kG ls es=r:=by
 unfold kG;rw[if_neg h,uP h0];simp only;rw[xX hx h1 h2]
theorem XP{ls:List LayD}{es:List EntR}(h:¬(20<ls.length∨200<es.length))(h0:∀j<ls.length,qM ls j=none)(h1:∀j<es.length,sH ls es j=none):kG ls es=0:=by
 unfold kG;rw[if_neg h,uP h0];simp only;rw[uP h1]
def okV(e:Ent):Prop:=(e.kind=1∧e.pts.length=2∨e.kind=2∧e.pts.length=3∨e.kind=3∧e.pts.length=1∧∃q:Rat,0<q∧rz q≤12∧e.rad=qI q)∧Zq e
@[reducible] def gQ(e:Ent):EntR:=⟨e.kind,e.layer,e.pts.map λp=>(qI p.1,qI p.2),e.rad⟩
theorem YC(e:Ent):dP (gQ e)=cO e:=by
 unfold dP gQ cO;simp only[List.map_map];rfl
theorem abH{e:EntR}(hs:pJ e)(h:nH e=true):∃x:Ent,e=gQ x∧okV x:=by
 obtain⟨kd,ly,pts,rd⟩:=e;obtain⟨s1,s2,s3,s4⟩:=hs;unfold nH at h;simp only[fC,decide_eq_true_eq,nI]at h;obtain⟨h1,h2,h3⟩:=h;simp only at s1 s2 s3 s4 h1 h2 h3
 have hp:∀p∈pts,p=(qI (qR p.1),qI (qR p.2)):=λp hp=>by
  obtain⟨a1,a2⟩:=h2 p hp;unfold iY at a1 a2;rw[fC]at a1 a2;exact Prod.ext (En a1.1) (En a2.1)
 have he:(pts.map λp=>(qR p.1,qR p.2)).map (λp:P2=>(qI p.1,qI p.2))=pts:=by
  rw[List.map_map];exact(List.map_congr_left (λp hp'=>(hp p hp').symm)).trans (List.map_id pts)
 refine⟨⟨kd,ly,pts.map λp=>(qR p.1,qR p.2),rd⟩, ?_, ?_, ?_, ?_, ?_⟩
 ·unfold gQ;simp only;rw[he]
 ·simp only[bK];rcases h1 with g|g|g
  ·exact .inl g
  ·exact .inr (.inl g)
  ·refine .inr (.inr ⟨g.1,g.2,qR rd, ?_⟩);rcases Bool.or_eq_true_iff.1 h3 with f|f
   ·rw[decide_eq_true_eq]at f;exact absurd g.1 f
   ·rw[fC,decide_eq_true_eq]at f;have f1:=f.1;unfold iY at f1;rw[fC]at f1;have e1:=En f1.1;exact⟨f.2,D6 (e1▸s2),e1⟩
 ·intro p hp';obtain⟨u,hu,rfl⟩:=iM.1 hp';have e1:=hp u hu;have e2:=s1 u hu;exact⟨D6 (by have:=e2.1;rw[e1]at this;exact this),D6 (by have:=e2.2;rw[e1]at this;exact this)⟩
 ·show ly.size≤1000;omega
 ·simp only[bK];omega
theorem Ph{α:Type}{n:Nat}{f:Nat→Option α}(h:Nw n f=none):∀j<n,f j=none:=by
 unfold Nw at h;rw[List.findSome?_eq_none_iff]at h;exactλj hj=>h j (by simpa using hj)
theorem NW{α:Type}{n:Nat}{f:Nat→Option α}{r:α}(h:Nw n f=some r):∃j<n,f j=some r:=by
 unfold Nw at h;obtain⟨j,h1,h2⟩:=List.exists_of_findSome?_eq_some h;exact⟨j,by simpa using h1,h2⟩
theorem agG{ls:List LayD}{es:List EntR}(h:kG ls es=0):ls.length≤20∧es.length≤200∧(∀j<ls.length,qM ls j=none)∧∀j<es.length,sH ls es j=none:=by
 unfold kG at h;split at h
 ·cases h
 ·rename_i g;split at h
  ·rename_i r e;obtain⟨j,_,h2⟩:=NW e;subst h;unfold qM at h2;split at h2
   ·cases h2
   ·split at h2<;>cases h2
  ·rename_i e;split at h
   ·rename_i r e';obtain⟨j,_,h2⟩:=NW e';subst h;unfold sH at h2;split at h2
    ·cases h2
    ·split at h2<;>cases h2
   ·rename_i e';exact⟨by omega,by omega,Ph e,Ph e'⟩
theorem XC{ls:List LayD}{es:List EntR}(hs:∀e∈es,pJ e)(h:kG ls es=0):∃xs:List Ent,es=xs.map gQ∧∀x∈xs,okV x:=by
 have h4:=(agG h).2.2.2
 have key:∀e∈es,∃x:Ent,e=gQ x∧okV x:=λe he=>by
  obtain⟨j,hj,rfl⟩:=Nz he;refine abH (hs _ he) ?_;have h5:=h4 j hj;unfold sH at h5;have e1:es.getD j wK=es[j]:=by simp[ou,hj]
  rw[e1]at h5;split at h5
  ·cases h5
  ·split at h5
   ·cases h5
   ·rename_i g;simpa using g
 clear h h4 hs;induction es with
 |nil=>exact⟨[],rfl,λx hx=>by simp at hx⟩
 |cons e r ih =>
  obtain⟨x,h1,h2⟩:=key e (by simp);obtain⟨xs,h3,h4⟩:=ih (λe he=>key e (by simp[he]));refine⟨x::xs,by rw[gB,←h1,←h3],λy hy=>?_⟩;rcases wL.1 hy with rfl|hy
  ·exact h2
  ·exact h4 y hy
theorem zip_fst{l:List Ent}{x:Ent×Nat}(h:x∈l.zipIdx):x.1∈l:=by
 have:=List.mem_map_of_mem (f:=(·.1)) h;simpa using this
theorem Yz{l:List (Ent×Nat)}{x:Ent×Nat}(h:x∈DN l):x∈l:=by
 unfold DN at h;obtain⟨y,h1,rfl⟩:=iM.1 h;have h2:=(H9.1 h1).1;exact(List.of_mem_zip h2).1
theorem aed(l:List Ent):l.zipIdx.map (·.1)=l:=by simp
end Go.Sw
namespace Go.Sw
open Go Go.Lib
@[reducible] def p10(n:Nat):Int:=((10 ^ n:Nat):Int)
theorem CY(n:Nat):p10 n*10=p10 (n+1):=by unfold p10;rw[Ar];omega
theorem DZ{n:Nat}(h:n≤31):sz (p10 n)≤4:=by
 show(lim (p10 n).natAbs).length≤4;refine jo ?_;have h1:10^n≤10^31:=Jw (by decide) h;show(p10 n).natAbs<_;unfold p10;rw[Nu];have h2:(10:Nat)^31<1000000000^4:=by decide +kernel
 omega
theorem Ic{n:Nat}(h:n≤31):rz ((p10 n:Int):Rat)≤8:=by
 have h1:=am8 (p10 n);have h2:=DZ h;omega
theorem ab5(n:Nat):((p10 n:Int):Rat)*((10:Int):Rat)=((p10 (n+1):Int):Rat):=by
 rw[←Jy,CY]
theorem den_mul(a:Rat)(k:Nat):(a*(((k:Nat):Int):Rat)).den=1↔k%a.den=0:=by
 have h0:=anb a;have hne:=anc a;constructor
 ·intro h;have h1:=WI (a*(((k:Nat):Int):Rat));rw[h]at h1
  have h2:(((a*(((k:Nat):Int):Rat)).num:Int):Rat)=a*(((k:Nat):Int):Rat):=by
   generalize(((a*(((k:Nat):Int):Rat)).num:Int):Rat)=m at h1 ⊢;generalize a*(((k:Nat):Int):Rat)=r at h1 ⊢;have:(((1:Nat):Int):Rat)=1:=rfl;rw[this]at h1
   grind
  generalize(a*(((k:Nat):Int):Rat)).num=m at h2
  have h3:((m*(a.den:Int):Int):Rat)=((a.num*(k:Int):Int):Rat):=by
   rw[Jy,Jy,h2,h0];generalize(((k:Nat):Int):Rat)=K;generalize(((a.den:Nat):Int):Rat)=D
   grind
  have h4:=Rat.intCast_inj.1 h3
  have h5:a.den ∣ a.num.natAbs*k:=by
   have:=congrArg Int.natAbs h4;rw[Int.natAbs_mul,Int.natAbs_mul,Nu,Nu]at this;exact⟨m.natAbs,by rw[←this,EI]⟩
  have h6:a.den ∣ k:=(Nat.Coprime.symm a.reduced).dvd_of_dvd_mul_left h5;exact Nat.mod_eq_zero_of_dvd h6
 ·intro h;obtain⟨c,hc⟩:=Nat.dvd_of_mod_eq_zero h
  have:a*(((k:Nat):Int):Rat)=((a.num*(c:Int):Int):Rat):=by
   rw[Jy,h0,hc,X3,Jy];generalize(((c:Nat):Int):Rat)=K;generalize(((a.den:Nat):Int):Rat)=D
   grind
  rw[this];exact Rat.den_intCast _
@[reducible] def aQ(a:Rat)(n:Nat):Rat:=a*(((p10 n:Int):Rat) / ((1:Int):Rat))
theorem acD(a:Rat)(n:Nat):aQ a n=a*((p10 n:Int):Rat):=by
 unfold aQ;have:((1:Int):Rat)=1:=rfl;rw[this];generalize((p10 n:Int):Rat)=K
 grind
def qK(k:Nat):ByteArray:=⟨(List.replicate k (48:UInt8)).toArray⟩
theorem nP(k:Nat):(qK k).size=k:=by
 show(List.replicate k (48:UInt8)).toArray.size=k;simp
theorem TD(k:Nat):(⟨#[48]⟩:ByteArray)++qK k=qK (k+1):=by
 unfold qK;rw[ByteArray.ext_iff,ByteArray.data_append];simp[List.replicate_succ]
def qj(n:Int):ByteArray:=if n<0 then(mQ n).extract 1 (mQ n).size else mQ n
def JC(n:Int):ByteArray:=if n<0 then⟨#[45]⟩else⟨#[]⟩
def Az(n:Int)(k:Nat):ByteArray:=qK (k+1-(qj n).size)++qj n
def Tt(n:Int)(k:Nat):ByteArray:=if k=0 then JC n++qj n else JC n++(Az n k).extract 0 ((Az n k).size-k)++⟨#[46]⟩++(Az n k).extract ((Az n k).size-k) (Az n k).size
def exS(a:Rat):ByteArray:=match Zk a with
 |some n=>Tt (aQ a n).num n
 |none=>⟨#[]⟩
theorem Y6{a:Rat}{x:Nat}(hx:x≤30)(h:∀j<x,¬10^j%a.den=0)(h1:10^x%a.den=0):Zk a=some x:=by
 unfold Zk;rw[List.find?_range_eq_some];refine⟨by simpa using h1,by simp;omega,λj hj=>by simpa using h j hj⟩
theorem acw{a:Rat}(h:∀j<31,¬10^j%a.den=0):Zk a=none:=by
 unfold Zk;rw[List.find?_range_eq_none];intro j hj;simpa using h j hj
theorem Gm(n:Int):1≤(mQ n).size:=by
 rw[zo];have:=nDigits_pos n.natAbs;split<;>omega
theorem Vz{n:Nat}(h:n≤31):rz (((p10 n:Int):Rat)/((1:Int):Rat))≤8:=by
 have e:((p10 n:Int):Rat)/((1:Int):Rat)=((p10 n:Int):Rat):=by
  have:((1:Int):Rat)=1:=rfl;rw[this];generalize((p10 n:Int):Rat)=K
  grind
 rw[e];exact Ic h
theorem GU{n:Int}(h:sz n≤50):(qj n).size≤460:=by
 have:=aaf h (by decide);unfold qj;split
 ·rw[Zo];omega
 ·omega
theorem Ot{n:Int}{k:Nat}(h:sz n≤50)(hk:k≤30):(Az n k).size≤500∧k+1≤(Az n k).size:=by
 have:=GU h;unfold Az;rw[ZA,nP];omega
theorem WO{n:Int}{k:Nat}(h:sz n≤50)(hk:k≤30):(Tt n k).size≤1000:=by
 have h1:=Ot h hk;have h2:=GU h;have h3:(JC n).size≤1:=by unfold JC;split<;>decide
 have h4:(⟨#[46]⟩:ByteArray).size=1:=rfl;unfold Tt;split
 ·rw[ZA];omega
 ·rw[ZA,ZA,ZA,Zo,Zo,h4];omega
theorem ahE{n:Int}{k:Nat}(h:(qj n).size≤k):qK ((k:Int)+1-((qj n).size:Int)).toNat++qj n=Az n k:=by
 have:((k:Int)+1-((qj n).size:Int)).toNat=k+1-(qj n).size:=by omega
 rw[this];rfl
theorem acW{n:Int}{k:Nat}(h:¬(qj n).size≤k):Az n k=qj n:=by
 unfold Az;rw[show k+1-(qj n).size=0 by omega,ByteArray.ext_iff,ByteArray.data_append];simp[qK]
theorem acY{n:Int}{k:Nat}(h:k=0):Tt n k=JC n++qj n:=by unfold Tt;rw[if_pos h]
theorem Yh{n:Int}{k:Nat}(h:¬k=0):Tt n k=JC n++(Az n k).extract 0 ((Az n k).size-k)++⟨#[46]⟩++(Az n k).extract ((Az n k).size-k) (Az n k).size:=by unfold Tt;rw[if_neg h]
theorem OX{a:Rat}{x:Nat}(h:rz a≤20)(hx:x≤30):sz (aQ a x).num≤50:=by
 have z1:=am4 (aQ a x);have z2:=am7 a (((p10 x:Int):Rat)/((1:Int):Rat));have z3:=Vz (n:=x) (by omega);unfold aQ at *;omega
theorem aci{n:Int}(h:n<0):(mQ n).extract (Int.toNat 1) (mQ n).size=qj n:=by unfold qj;rw[if_pos h];rfl
theorem acV{n:Int}(h:¬n<0):mQ n=qj n:=by unfold qj;rw[if_neg h]
end Go.Sw
namespace Go.Sw
open Go
@[reducible] def pE(u v:P2):Bool:=decide (u.1=v.1) && decide (u.2=v.2)
theorem mD{u v:P2}:pE u v=decide (u=v):=QY
theorem abQ{p q:Rat}:qI p=qI q↔p=q:=⟨λh=>by have:=congrArg qR h;rwa [V5,V5]at this,λh=>h▸rfl⟩
theorem Lj{l1 l2:ByteArray}{a b c d:P2}{r1 r2:Rq}:dB ⟨1,l1,[a,b],r1⟩ ⟨1,l2,[c,d],r2⟩=((l1.toList == l2.toList)&&((pE a c&&pE b d) ||(pE a d&&pE b c))):=by
 rw[mD,mD,mD,mD];unfold dB eqS wX;simp[Bool.decide_or,Bool.decide_and]
theorem XH{l1 l2:ByteArray}{a m b c n d:P2}{r1 r2:Rq}:dB ⟨2,l1,[a,m,b],r1⟩ ⟨2,l2,[c,n,d],r2⟩=((l1.toList == l2.toList)&&(((pE a c&&pE b d) ||(pE a d&&pE b c))&&(if(decide (jE a m b=0)||decide (jE c n d=0))=true then decide (jE a m b=0)&&(decide (jE c n d=0)&&pE m n)else zY c n d m&&zY a m b n))):=by
 rw[mD,mD,mD,mD,mD];unfold dB eqS wX;simp[Bool.decide_or,Bool.decide_and,aeu,Bool.and_assoc]
theorem Kz{l1 l2:ByteArray}{a c:P2}{q1 q2:Rat}:dB ⟨3,l1,[a],qI q1⟩ ⟨3,l2,[c],qI q2⟩=((l1.toList == l2.toList)&&(pE a c&&decide (q1=q2))):=by
 rw[mD];have:decide (qI q1=qI q2)=decide (q1=q2):=decide_eq_decide.2 abQ;rw[←this];show((l1.toList == l2.toList)&&decide ((3:Int)=3)&&(decide (a=c)&&decide (qI q1=qI q2)))=_;rw[decide_eq_true (show(3:Int)=3 from rfl),Bool.and_true]
theorem ku{e f:Ent}(h:¬e.kind=f.kind):dB e f=false:=by
 unfold dB;simp[h]
theorem qF{e:Ent}(h:okV e):(∃l a b r,e=⟨1,l,[a,b],r⟩∧aV a∧aV b∧l.size≤1000)∨(∃l a m b r,e=⟨2,l,[a,m,b],r⟩∧aV a∧aV m∧aV b∧l.size≤1000)∨(∃l a q,e=⟨3,l,[a],qI q⟩∧aV a∧0<q∧rz q≤12∧l.size≤1000):=by
 obtain⟨kd,ly,pts,rd⟩:=e;obtain⟨h1,h2,h3,h4⟩:=h;simp only at h1 h2 h3 h4;rcases h1 with⟨rfl,g⟩|⟨rfl,g⟩|⟨rfl,g,q,q1,q2,rfl⟩
 ·match pts,g,h2 with
  |[a,b],_,h2=>exact .inl ⟨ly,a,b,rd,rfl,h2 a (by simp),h2 b (by simp),h3⟩
 ·match pts,g,h2 with
  |[a,m,b],_,h2=>exact .inr (.inl ⟨ly,a,m,b,rd,rfl,h2 a (by simp),h2 m (by simp),h2 b (by simp),h3⟩)
 ·match pts,g,h2 with
  |[a],_,h2=>exact .inr (.inr ⟨ly,a,q,rfl,h2 a (by simp),q1,q2,h3⟩)
theorem Us{e:Ent}{l:List P2}(h:okV e)(hl:l.length=(aS e).length)(hp:∀p∈l,aV p):okV (iI e l):=by
 obtain⟨m1,m2,m3,m4,m5⟩:=Dn hl;obtain⟨h1,h2,h3,h4⟩:=h;refine⟨?_,Ey h2 hp,by rw[m2];exact h3,by rw[m4];exact h4⟩;rw[m3,m4,m5];exact h1
theorem ae4{sq:Rat}{es:List Ent}(h:∀e∈es,okV e):∀e∈(dU sq 0 [] es).es,okV e:=by
 intro e he;have hj:=MK sq 0 [] es;have h2:=(QX (q:=aV) (sq:=sq) (λe he=>(h e he).2.1) es.length (kU _)).1;rw[IC]at h2;obtain⟨j,hj1,rfl⟩:=Nz he;have hl:=hj.len;obtain⟨ws,g1,g2,g3⟩:=hj.ent j (es[j]'(by omega)) _ (jP _) (jP hj1);rw[g2];refine Us (h _ (IK _)) g1 λp hp=>?_
 obtain⟨q,q1,rfl⟩:=tX (g3 p hp);exact h2 q q1
theorem I9{l:List (Ent×Nat)}(h:∀x∈l,okV x.1){x:Nat}(hx:x<l.length):okV (l.getD x N0).1:=by
 have:l.getD x N0=l[x]:=by simp[ou,hx]
 rw[this];exact h _ (IK hx)
theorem Jc{l:List (Ent×Nat)}{x:Nat}(h:x<l.length):l.take (x+1)=l.take x++[l.getD x N0]:=by
 rw[Zn,jP h];simp[ou,h]
def UW(l:List (Ent×Nat))(x:Nat):List (Ent×Nat):=wo (l.take x)
def U2(l:List (Ent×Nat))(x:Nat):List Chn:=tu (l.take x)
theorem Rz(l:List (Ent×Nat)):UW l l.length=wo l:=by unfold UW;rw[ER]
theorem RF(l:List (Ent×Nat)):U2 l l.length=tu l:=by unfold U2;rw[ER]
theorem acu{l:List (Ent×Nat)}{x:Nat}(h:x<l.length)(hf:kL (l.getD x N0).1=0):UW l (x+1)=UW l x++[l.getD x N0]∧U2 l (x+1)=U2 l x:=by
 unfold UW U2 wo tu;rw[Jc h,SB,SB];simp only[List.filter_cons,List.filter_nil,hf];simp
theorem Xr{l:List (Ent×Nat)}{x k:Nat}(h:x<l.length)(hf:kL (l.getD x N0).1=k+1):UW l (x+1)=UW l x∧U2 l (x+1)=U2 l x++[⟨k+1,(l.getD x N0).2,0,none,none⟩]:=by
 unfold UW U2 wo tu;rw[Jc h,SB,SB];generalize l.getD x N0=y at *;simp only[List.filter_cons,List.filter_nil,hf];simp[hf]
theorem Je(l:List (Ent×Nat))(x:Nat):(UW l x).length≤l.length∧(U2 l x).length≤l.length:=by
 unfold UW U2 wo tu;have h1:=dY (λx:Ent×Nat=>kL x.1 == 0) (l.take x);have h2:=dY (λx:Ent×Nat=>!(kL x.1 == 0)) (l.take x);rw[vY]at h1 h2;rw[bK];omega
theorem Rn{e:Ent}{a b:P2}(hE:aS e=[a,b])(h:pE a b=true):kL e=2:=by
 rw[mD,decide_eq_true_eq]at h;unfold kL;rw[hE];simp[h]
theorem I5{e:Ent}{a b:P2}(hE:aS e=[a,b])(h:pE a b=false):kL e=if e.kind=2∧EP e=true then 5 else 0:=by
 rw[mD,decide_eq_false_iff_not]at h;unfold kL;rw[hE];simp[h]
theorem Ri{e:Ent}(hE:aS e=[]):kL e=if e.kind=2∧EP e=true then 5 else 0:=by
 unfold kL;rw[hE]
def Np(l:List (Ent×Nat))(x:Nat):List (Ent×Nat):=(((l.zip (aY (l.map (·.1)))).take x).filter λp=>!p.2).map (·.1)
def UR(l:List (Ent×Nat))(x:Nat):List Chn:=(((l.zip (aY (l.map (·.1)))).take x).filter λp=>p.2).map λx=>⟨3,x.1.2,0,none,none⟩
theorem xR(l:List (Ent×Nat)):(l.zip (aY (l.map (·.1)))).length=l.length:=by rw[List.length_zip,fM,bK,Nat.min_self]
theorem Jm(l:List (Ent×Nat)):Np l l.length=DN l:=by
 unfold Np DN;rw[U9 (by rw[xR];exact kU _)]
theorem aby(l:List (Ent×Nat)):UR l l.length=afl l:=by
 unfold UR afl;rw[U9 (by rw[xR];exact kU _)]
theorem FI{l:List (Ent×Nat)}{x:Nat}(h:x<l.length):(l.zip (aY (l.map (·.1)))).take (x+1)=(l.zip (aY (l.map (·.1)))).take x++[(l.getD x N0,(aY (l.map (·.1))).getD x false)]:=by
 have h1:x<(l.zip (aY (l.map (·.1)))).length:=by rw[xR];exact h
 have h2:x<(aY (l.map (·.1))).length:=by rw[fM,bK];exact h
 rw[Zn,jP h1,List.getElem_zip];simp[ou,h,h2]
theorem ahr{l:List (Ent×Nat)}{x:Nat}(h:x<l.length)(hb:(aY (l.map (·.1))).getD x false=true):Np l (x+1)=Np l x∧UR l (x+1)=UR l x++[⟨3,(l.getD x N0).2,0,none,none⟩]:=by
 unfold Np UR;rw[FI h,hb,SB,SB];simp
theorem afK{l:List (Ent×Nat)}{x:Nat}(h:x<l.length)(hb:(aY (l.map (·.1))).getD x false=false):Np l (x+1)=Np l x++[l.getD x N0]∧UR l (x+1)=UR l x:=by
 unfold Np UR;rw[FI h,hb,SB,SB];simp
theorem Hw(l:List (Ent×Nat))(x:Nat):(Np l x).length≤l.length∧(UR l x).length≤l.length:=by
 unfold Np UR;have h1:=dY (λp:(Ent×Nat)×Bool=>!p.2) ((l.zip (aY (l.map (·.1)))).take x);have h2:=dY (λp:(Ent×Nat)×Bool=>p.2) ((l.zip (aY (l.map (·.1)))).take x);rw[vY,xR]at h1 h2;rw[bK,bK];omega
theorem left_ok{q:Ent→Prop}{l:List (Ent×Nat)}(h:∀x∈l,q x.1):∀x∈DN l,q x.1:=λx hx=>h x (Yz hx)
theorem aar{q:Ent→Prop}{l:List (Ent×Nat)}(h:∀x∈l,q x.1):∀x∈wo l,q x.1:=λx hx=>h x (H9.1 hx).1
theorem ai4{l:List (Ent×Nat)}{x:Nat}(h:x<l.length):(l.take (x+1)).map (·.1)=(l.take x).map (·.1)++[(l.getD x N0).1]:=by rw[Jc h,fO];rfl
theorem rpL{l:List (Ent×Nat)}{x:Nat}(h:x≤l.length):(zZ (l.map (·.1)) x).length=l.length:=by
 rw[aal (by rw[bK];exact h),bK]
theorem Qm{l:List (Ent×Nat)}{x:Nat}(h:x<l.length):(l.map (·.1)).getD x E0=(l.getD x N0).1:=by
 simp[ou,h]
theorem aex{l:List (Ent×Nat)}{x k:Nat}(hx:x<l.length)(hk:k<x)(h0:vV (l.map (·.1)) x k=false)(h:(!(zZ (l.map (·.1)) x).getD k false)=false∨dB (l.getD x N0).1 (l.getD k N0).1=false):vV (l.map (·.1)) x (k+1)=false:=by
 rw[Fz (by rw[bK];exact hx) hk,h0,Qm hx,Qm (by omega)];rcases h with h|h<;>rw[h]<;>simp
theorem aeN{l:List (Ent×Nat)}{x k:Nat}(hx:x<l.length)(hk:k<x)(h1:(!(zZ (l.map (·.1)) x).getD k false)=true)(h2:dB (l.getD x N0).1 (l.getD k N0).1=true):zZ (l.map (·.1)) (x+1)=(zZ (l.map (·.1)) x).set x true:=by
 refine agV (by rw[bK];exact hx) hk ?_;rw[Fz (by rw[bK];exact hx) hk,Qm hx,Qm (by omega),h1,h2];simp
theorem agU{l:List (Ent×Nat)}{x:Nat}(hx:x<l.length)(h:vV (l.map (·.1)) x x=false):zZ (l.map (·.1)) (x+1)=zZ (l.map (·.1)) x:=ahg (by rw[bK];exact hx) h
theorem aa1(l:List (Ent×Nat)):zZ (l.map (·.1)) l.length=aY (l.map (·.1)):=by
 have:=abm (l.map (·.1))
 rwa [bK]at this
def sD:Rq×Rq:=(⟨false,[],false,[]⟩,⟨false,[],false,[]⟩)
theorem o9{e:EntR}(h:¬(e.kind=1∧e.pts.length=2∨e.kind=2∧e.pts.length=3∨e.kind=3∧e.pts.length=1)):nH e=false:=by
 unfold nH;rw[decide_eq_false h,aB]
theorem vG{e:EntR}{x:Nat}(hx:x<e.pts.length)(h:(iY (e.pts.getD x sD).1&&iY (e.pts.getD x sD).2)=false):nH e=false:=by
 have:(e.pts.all λp=>iY p.1&&iY p.2)=false:=by
  rw[List.all_eq_false];refine⟨e.pts.getD x sD, ?_,by rw[h];decide⟩;have:e.pts.getD x sD=e.pts[x]:=by simp[ou,hx]
  rw[this];exact IK hx
 unfold nH;rw[this];simp
theorem qx{e:EntR}(h:e.kind=1∧e.pts.length=2∨e.kind=2∧e.pts.length=3∨e.kind=3∧e.pts.length=1)(h1:∀j<e.pts.length,(iY (e.pts.getD j sD).1&&iY (e.pts.getD j sD).2)=true):nH e=(decide (¬e.kind=3) ||(iY e.rad&&decide (0<qR e.rad))):=by
 have:(e.pts.all λp=>iY p.1&&iY p.2)=true:=by
  rw[nI];intro p hp;obtain⟨j,hj,rfl⟩:=Nz hp;have h2:=h1 j hj;have e1:e.pts.getD j sD=e.pts[j]:=by simp[ou,hj]
  rwa [e1]at h2
 unfold nH;rw[this,decide_eq_true h];simp
theorem Jg{r:Rq}(h:iY r=true):vR r=true:=by
 unfold iY at h;rw[fC]at h;exact h.1
theorem ng{e:EntR}(h:pJ e){x:Nat}(hx:x<e.pts.length):Ip (e.pts.getD x sD).1∧Ip (e.pts.getD x sD).2:=by
 have:e.pts.getD x sD=e.pts[x]:=by simp[ou,hx]
 rw[this];exact h.1 _ (IK hx)
def bH(ls:List LayD)(e:EntR):Int:=if sG ls e.layer<0 then 4 else if nH e=false then 1 else 0
theorem VH{ls:List LayD}{es:List EntR}{x:Nat}:(bH ls (es.getD x wK)=0→sH ls es x=none)∧(¬bH ls (es.getD x wK)=0→sH ls es x=some (bH ls (es.getD x wK))):=by
 unfold bH sH;split
 ·exact⟨λh=>(by cases h),λ_=>rfl⟩
 ·split
  ·exact⟨λh=>(by cases h),λ_=>rfl⟩
  ·exact⟨λ_=>rfl,λh=>absurd rfl h⟩
theorem Y8{ls:List LayD}{x:Nat}(hx:x<ls.length):(vZ (ls.take (x+1))=0→qM ls x=none)∧(¬vZ (ls.take (x+1))=0→qM ls x=some (vZ (ls.take (x+1)))):=by
 rw[Oh hx];unfold qM;split
 ·exact⟨λh=>(by cases h),λ_=>rfl⟩
 ·split
  ·exact⟨λh=>(by cases h),λ_=>rfl⟩
  ·exact⟨λ_=>rfl,λh=>absurd rfl h⟩
theorem acH{es:List EntR}(h:∀e∈es,pJ e){x:Nat}(hx:x<es.length):pJ (es.getD x wK):=by
 have:es.getD x wK=es[x]:=by simp[ou,hx]
 rw[this];exact h _ (IK hx)
theorem acz{ls:List LayD}{n:Nat}(h:∀l∈ls,l.name.size≤n)(x:Nat):(ls.getD x L0).name.size≤n:=by
 by_cases hx:x<ls.length
 ·have:ls.getD x L0=ls[x]:=by simp[ou,hx]
  rw[this];exact h _ (IK hx)
 ·have:ls.getD x L0=L0:=by simp[ou,Nat.le_of_not_lt hx]
  rw[this];exact oW _
theorem HY:rz Gp≤8:=dh (ai0 1 1000 (by decide) ⟨by decide,by decide⟩ ⟨by decide,by decide⟩) (by decide)
theorem acG{a:Rat}(h:rz a≤12):rz (a*Gp)≤20:=by
 have h1:=am7 a Gp;have h2:=HY;omega
theorem Ya:rz ((10000000:Int):Rat)≤4:=NV _ (by decide) (by decide)
end Go.Sw
namespace Go.Sw
open Go Go.Lib Go.RowKit
end Go.Sw
namespace Go.Sw
open Go Go.Lib
theorem SH(n:Int):((((pO (mQ n)).getD (Int.toNat 0) 0:Nat):Int)=45)↔n<0:=by
 rw[yc]
 by_cases h:n<0
 ·rw[if_pos h];simp[h]
 ·rw[if_neg h];simp only[h,iff_false,sS];intro e;have e2:(JD n.natAbs).getD 0 0=45:=by have e3:(((JD n.natAbs).getD 0 0:Nat):Int)=45:=e;omega
  refine ac7 n.natAbs ?_;cases hd:JD n.natAbs with
  |nil=>rw[hd]at e2;simp at e2
  |cons x r=>rw[hd]at e2;simp at e2;subst e2;rfl
theorem YK{n:Int}(h:n<0):decide ((((pO (mQ n)).getD (Int.toNat 0) 0:Nat):Int)=45)=true:=decide_eq_true ((SH n).2 h)
theorem WE{n:Int}(h:¬n<0):decide ((((pO (mQ n)).getD (Int.toNat 0) 0:Nat):Int)=45)=false:=decide_eq_false (λe=>h ((SH n).1 e))
theorem Qr(n:Int):1≤(qj n).size:=by
 have h1:=nDigits_pos n.natAbs;have h2:=zo n;unfold qj
 by_cases h:n<0
 ·rw[if_pos h]at h2 ⊢;rw[Zo];omega
 ·rw[if_neg h]at h2 ⊢;omega
theorem PU(n:Int):qK 0++qj n=qj n:=by
 rw[ByteArray.ext_iff,ByteArray.data_append];simp[qK]
theorem zpS{n:Int}{j:Nat}:(⟨#[48]⟩:ByteArray)++(qK j++qj n)=qK (j+1)++qj n:=by
 rw[←ByteArray.append_assoc,TD]
theorem zpE{n:Int}{j k:Nat}(h:j≤k+1-(qj n).size)(h2:¬((qK j++qj n).size:Int)≤k):qK j++qj n=Az n k:=by
 rw[ZA,nP]at h2;have:j=k+1-(qj n).size:=by omega
 subst this;rfl
theorem aiZ{n:Int}(h:n<0):(mQ n).extract (Int.toNat 1) (mQ n).size=qK 0++qj n:=by rw[PU];exact aci h
theorem akB{n:Int}(h:¬n<0):mQ n=qK 0++qj n:=by rw[PU];exact acV h
theorem afL{n:Int}(h:n<0):(⟨#[45]⟩:ByteArray)=JC n:=by unfold JC;rw[if_pos h]
theorem agy{n:Int}(h:¬n<0):(⟨#[]⟩:ByteArray)=JC n:=by unfold JC;rw[if_neg h]
theorem ags(n:Int):Az n 0=qj n:=by
 have:=Qr n;exact acW (by omega)
theorem ael(n:Int):(JC n).size≤1:=by unfold JC;split<;>decide
theorem aiE{n:Int}{k:Nat}(h:(k:Int)=0):JC n++Az n k=Tt n k:=by
 have:k=0:=by omega
 subst this;rw[ags,acY rfl]
theorem aj8{n:Int}{k a b c:Nat}(h:¬(k:Int)=0)(ha:a=0)(hb:b=(Az n k).size-k)(hc:c=(Az n k).size):JC n++(Az n k).extract a b++⟨#[46]⟩++(Az n k).extract b c=Tt n k:=by
 subst ha hb hc;exact(Yh (by omega)).symm
theorem N8{a:Rat}{x:Nat}:((((a*((p10 x:Int):Rat)).den:Nat):Int)=1)↔10^x%a.den=0:=by
 have:=den_mul a (10^x);rw[←this];show((((a*(((10^x:Nat):Int):Rat)).den:Nat):Int)=1)↔_;omega
theorem ab6{a:Rat}{x:Nat}(hx:x≤30)(h:∀j<x,¬10^j%a.den=0)(h1:(((a*((p10 x:Int):Rat)).den:Nat):Int)=1):Zk a=some x∧exS a=Tt (a*((p10 x:Int):Rat)).num x:=by
 have e:=Y6 hx h (N8.1 h1);refine⟨e, ?_⟩;unfold exS;rw[e];show Tt (aQ a x).num x=_;rw[acD]
theorem ac2{a:Rat}(h:∀j<31,¬10^j%a.den=0):Zk a=none∧exS a=⟨#[]⟩:=by
 have e:=acw h;refine⟨e, ?_⟩;unfold exS;rw[e]
theorem WS{a:Rat}{x:Nat}(h:rz a≤20)(hx:x≤30):sz (a*((p10 x:Int):Rat)).num≤50:=by
 rw[←acD];exact OX h hx
end Go.Sw
namespace Go.Proofs.YtmniihkenijjpaaGreatDoor
open Go Go.RowKit Go.Sw
set_option maxRecDepth 100000
set_option maxHeartbeats 8000000
instance ahZ(neg:Bool)(l:List Nat):DenI Tryz.prog 221 [Zr neg l] (l.length≤9223372036854775807) (.bool (iF neg l)):=⟨λhp=>by
 refine amV Tryz.func221 rfl ?_
 all_goals first
  |((conv=>whnf);refine Sw.Loop.inv (α:=Nat) (λx=>[(1,.ptr 1 0),(2,.bool false),(7,.c (lmc l)),(8,.int .i64 (l.length:Nat)),(9,.int .i64 x)]) (λx=>[(1,.var [.v (.bool neg),lmc l])]) (λx=>x≤l.length∧∀j,j<x→l.getD j 0<1000000000) (λx=>l.length-x) 0 ?_ ?_ ?_ (λx hx=>?_))
 all_goals(repeat'((try(conv=>whnf));first
  |(with_reducible first|refine onB_d (λ_=>?_) (λ_=>?_)|refine elem_u ?_ ?_)|refine Ends.mk ?_))
 all_goals(try refine Pr.mk ?_)
 all_goals first|(show SubE _ _;repeat'(first|exact trivial|refine And.intro ?_ ?_))|(show SubB _ _;repeat'(first|exact trivial|refine And.intro ?_ ?_))|skip
 all_goals(try rfl)
 all_goals(try simp only[bK,fU]at *)
 all_goals first
  |exact bE (XI (x:=x) (by omega) (by assumption))|((conv=>whnf);exact⟨x+1,⟨⟨rfl,rfl,rfl,rfl,aW (by omega),trivial⟩,⟨rfl,trivial⟩,⟨by omega,λj hj=>by rcases Nat.lt_succ_iff_lt_or_eq.1 hj with h|h;exact hx.2 j h;subst h;omega⟩,by show l.length-(x+1)<l.length-x;omega⟩⟩)|omega|exact⟨by omega,λj hj=>by omega⟩|rfl|(rw[bW (by omega) (by omega)];omega)|(have w:(IntKind.i64.wrap ((l.length:Int)-1)).toNat=l.length-1:=(by rw[bW (by omega) (by omega)];omega);rw[w];exact bE (Nv (Ee λj hj=>hx.2 j (by omega)) (by omega)))|exact bE (Oz (by omega))⟩
instance amF(n1:Bool)(l1:List Nat)(n2:Bool)(l2:List Nat):DenI Tryz.prog 178 [Rr n1 l1 n2 l2] (l1.length≤1000000000∧l2.length≤1000000000) (.bool (ana n1 l1 n2 l2)):=⟨λhp=>by
 rcases zT n1 l1 n2 l2 with h|⟨x,rfl,rfl,h⟩|⟨x,y,rfl,rfl,rfl,rfl⟩
 all_goals refine amV Tryz.func178 rfl ?_
 all_goals(repeat'((try(conv=>whnf));first
  |refine call_0 ?_|refine call_i ?_ ?_|(with_reducible first|refine onB_t ?_|refine onB_f ?_|refine onB_d (λ_=>?_) (λ_=>?_))|refine OnB.mk (λ_=>?_) (λ_=>?_)|refine Ends.mk ?_))
 all_goals(try refine Pr.mk ?_)
 all_goals(try simp only[am3]at *)
 all_goals first
  |(simp only[rW]at *;exfalso;simp_all;done)|(exfalso;simp_all;done)|exact bE (aja (x:=x) (y:=y) (by omega))|exact bE (akA (x:=x) (y:=y) (by omega))|exact bE (by unfold ana;simp_all)|exact hp|(first|exact dh hp.1 (by decide)|exact dh hp.2 (by decide))⟩
end Go.Proofs.YtmniihkenijjpaaGreatDoor
namespace Go.Sw
open Go
def jZ(tol:Rat)(es:List Ent):List (Ent×Nat):=(dU (tol*tol) 0 [] es).es.zipIdx
def jK(tol:Rat)(es:List Ent):List (Ent×Nat):=wo (jZ tol es)
def jL(tol:Rat)(es:List Ent):List (Ent×Nat):=DN (jK tol es)
def Jv(tol:Rat)(es:List Ent)(x:Nat):List Chn:=(dU (tol*tol) 0 [] es).cs++tu (jZ tol es)++UR (jK tol es) x
theorem acA(tol:Rat)(es:List Ent):Jv tol es 0=(dU (tol*tol) 0 [] es).cs++tu (jZ tol es):=by unfold Jv UR;simp
theorem OT(tol:Rat)(es:List Ent):(jZ tol es).length=es.length:=by unfold jZ;rw[SL,GI]
theorem OY(tol:Rat)(es:List Ent):(jK tol es).length≤es.length:=by
 have:=(Je (jZ tol es) (jZ tol es).length).1;rw[Rz,OT]at this;exact this
theorem Zi(tol:Rat)(es:List Ent):(jL tol es).length≤es.length:=by
 have:=(Hw (jK tol es) (jK tol es).length).1;rw[Jm]at this;have h2:=OY tol es;exact dh this h2
theorem acN{tol:Rat}{es:List Ent}(h:∀e∈es,okV e):∀x∈jZ tol es,okV x.1:=λx hx=>ae4 h _ (zip_fst hx)
theorem acU{tol:Rat}{es:List Ent}(h:∀e∈es,okV e):∀x∈jK tol es,okV x.1:=aar (acN h)
theorem afB{tol:Rat}{es:List Ent}(h:∀e∈es,okV e):∀x∈jL tol es,okV x.1:=left_ok (acU h)
theorem Qh{tol:Rat}{es:List Ent}(h:∀e∈es,okV e)(x:Nat):(dU (tol*tol) 0 [] es).cs.length≤2*es.length∧(tu (jZ tol es)).length≤es.length∧(Jv tol es x).length≤4*es.length:=by
 have h1:=QX (q:=aV) (sq:=tol*tol) (es:=es) (λe he=>(h e he).2.1) es.length (kU _);have h2:=RV es es.length;rw[IC]at h1;have h3:=(Je (jZ tol es) (jZ tol es).length).2;rw[RF,OT]at h3;have h4:=(Hw (jK tol es) x).2;have h5:=OY tol es;have h6:=h1.2.2.2.1;refine⟨by omega,h3, ?_⟩;unfold Jv;rw[gY,gY];omega
theorem Oy(tol:Rat)(es:List Ent):(dJ (tol*tol) es).es=(jL tol es).map (·.1)∧(dJ (tol*tol) es).cs=Jv tol es (jK tol es).length++jU (jL tol es):=by
 refine⟨rfl, ?_⟩;unfold Jv;rw[aby];rfl
theorem aai{tol:Rat}{es:List Ent}(h:es.length≤12)(h4:∀e∈es,okV e):(dJ (tol*tol) es).cs.length≤1000:=by
 rw[(Oy tol es).2];have h1:=(Qh (tol:=tol) h4 (jK tol es).length).2.2;have h2:=xJ (jL tol es) (jL tol es).length (kU _);have h3:=Zi tol es;rw[Ho]at h2;rw[gY];omega
theorem agl{tol:Rat}{es:List Ent}{x:Nat}(h:x<(jK tol es).length)(hb:(aY ((jK tol es).map (·.1))).getD x false=true):Np (jK tol es) (x+1)=Np (jK tol es) x∧Jv tol es (x+1)=Jv tol es x++[⟨3,((jK tol es).getD x N0).2,0,none,none⟩]:=by
 obtain⟨h1,h2⟩:=ahr h hb;refine⟨h1, ?_⟩;unfold Jv;rw[h2,o8,o8,o8]
theorem afW{tol:Rat}{es:List Ent}{x:Nat}(h:x<(jK tol es).length)(hb:(aY ((jK tol es).map (·.1))).getD x false=false):Np (jK tol es) (x+1)=Np (jK tol es) x++[(jK tol es).getD x N0]∧Jv tol es (x+1)=Jv tol es x:=by
 obtain⟨h1,h2⟩:=afK h hb;refine⟨h1, ?_⟩;unfold Jv;rw[h2]
theorem TA{l:List (Ent×Nat)}{x:Nat}(h:x<l.length):((l.take (x+1)).map (·.1)).map cO=((l.take x).map (·.1)).map cO++[cO (l.getD x N0).1]:=by
 rw[ai4 h,fO];rfl
def C0:Chn:=⟨0,0,0,none,none⟩
def V8(cs:List Chn):Bool:=cs.all λc=>decide (c.kind=4)
def dG(cs:List Chn):Int:=match Nw cs.length (λi=>if(cs.getD i C0).kind=4 then none else some i)with
 |some i=>((i:Nat):Int)
 |none=>-1
theorem adI{cs:List Chn}{x:Nat}(hx:x<cs.length)(h:∀j<x,(cs.getD j C0).kind=4)(h1:¬(cs.getD x C0).kind=4):dG cs=(x:Nat):=by
 unfold dG;rw[xX (x:=x) (r:=x) hx (λj hj=>by rw[if_pos (h j hj)]) (by rw[if_neg h1])]
theorem agS{cs:List Chn}(h:∀j<cs.length,(cs.getD j C0).kind=4):dG cs = -1:=by
 unfold dG;rw[uP (λj hj=>by rw[if_pos (h j hj)])]
theorem ahA(cs:List Chn):decide (dG cs≥0) = !V8 cs:=by
 unfold V8;cases e:Nw cs.length (λi=>if(cs.getD i C0).kind=4 then none else some i)with
 |none =>
  have h1:=Ph e
  have h2:(cs.all λc=>decide (c.kind=4))=true:=by
   rw[nI];intro c hc;obtain⟨j,hj,rfl⟩:=Nz hc;have h3:=h1 j hj;have e1:cs.getD j C0=cs[j]:=by simp[ou,hj]
   rw[e1]at h3;split at h3
   ·rename_i g;simpa using g
   ·cases h3
  rw[h2];unfold dG;rw[e];rfl
 |some i =>
  obtain⟨j,hj,h3⟩:=NW e
  have h2:(cs.all λc=>decide (c.kind=4))=false:=by
   rw[List.all_eq_false];have e1:cs.getD j C0=cs[j]:=by simp[ou,hj]
   rw[e1]at h3;split at h3
   ·cases h3
   ·rename_i g;exact⟨cs[j],IK hj,by simpa using g⟩
  rw[h2];unfold dG;rw[e];simp
@[reducible] def JZ(x y u v:Int):Ent:=⟨1,⟨#[97]⟩,[((x:Rat),(y:Rat)),((u:Rat),(v:Rat))],⟨false,[],false,[]⟩⟩
def mX(x:Int):Prop:=-9223372036854775808≤x∧x≤9223372036854775807
theorem Ji{x y u v:Int}(h1:mX x)(h2:mX y)(h3:mX u)(h4:mX v):okV (JZ x y u v)∧pJ (gQ (JZ x y u v)):=by
 have z1:=NV x h1.1 h1.2;have z2:=NV y h2.1 h2.2;have z3:=NV u h3.1 h3.2;have z4:=NV v h4.1 h4.2
 have hs:∀q:Rat,rz q≤4→Ip (qI q):=λq h=>by
  have e1:(lim q.num.natAbs).length≤rz q:=am4 q;have e2:(lim (q.den:Int).natAbs).length≤rz q:=am5 q;exact⟨by show(lim q.num.natAbs).length≤6;omega,by show(lim (q.den:Int).natAbs).length≤6;omega⟩
 refine⟨⟨.inl ⟨rfl,rfl⟩,λp hp=>?_,by show(ByteArray.mk #[97]).size≤1000;decide,by show 2≤3;decide⟩,λp hp=>?_,⟨oW 6,oW 6⟩,by show 2≤5;decide,by show(ByteArray.mk #[97]).size≤60;decide⟩
 ·have hp':p=((x:Rat),(y:Rat))∨p=((u:Rat),(v:Rat)):=by simpa using hp
  rcases hp' with rfl|rfl
  ·exact⟨dh z1 (by decide),dh z2 (by decide)⟩
  ·exact⟨dh z3 (by decide),dh z4 (by decide)⟩
 ·have hp':p=(qI (x:Rat),qI (y:Rat))∨p=(qI (u:Rat),qI (v:Rat)):=by simpa[gQ]using hp
  rcases hp' with rfl|rfl
  ·exact⟨hs _ z1,hs _ z2⟩
  ·exact⟨hs _ z3,hs _ z4⟩
def aw1:List Ent:=[JZ 0 0 1000 0,JZ 1003 0 0 1000,JZ 0 1004 0 0]
def aw2:List Ent:=[JZ 0 0 2 0]
@[reducible] def aLL:List LayD:=[⟨⟨#[97]⟩,1,1000⟩]
theorem zK:(∀e∈aw1,okV e)∧∀e∈aw1,pJ (gQ e):=by
 have h1:=Ji (x:=0) (y:=0) (u:=1000) (v:=0) (by unfold mX;omega) (by unfold mX;omega) (by unfold mX;omega) (by unfold mX;omega);have h2:=Ji (x:=1003) (y:=0) (u:=0) (v:=1000) (by unfold mX;omega) (by unfold mX;omega) (by unfold mX;omega) (by unfold mX;omega);have h3:=Ji (x:=0) (y:=1004) (u:=0) (v:=0) (by unfold mX;omega) (by unfold mX;omega) (by unfold mX;omega) (by unfold mX;omega);constructor<;>(intro e he;simp only[aw1,wL,List.not_mem_nil,or_false]at he;rcases he with rfl|rfl|rfl)
 ·exact h1.1
 ·exact h2.1
 ·exact h3.1
 ·exact h1.2
 ·exact h2.2
 ·exact h3.2
theorem X5:(∀e∈aw2,okV e)∧∀e∈aw2,pJ (gQ e):=by
 have h1:=Ji (x:=0) (y:=0) (u:=2) (v:=0) (by unfold mX;omega) (by unfold mX;omega) (by unfold mX;omega) (by unfold mX;omega);constructor<;>(intro e he;simp only[aw2,wL,List.not_mem_nil,or_false]at he;subst he)
 ·exact h1.1
 ·exact h1.2
theorem VI:kG aLL (aw1.map gQ)=0:=by decide +kernel
theorem ahn:kG aLL (aw2.map gQ)=0:=by decide +kernel
theorem Xi{cs:List Chn}{l:List (Nat×Nat)}(h:(cs.map λc=>(c.kind,c.ent))=l):cs.length=l.length∧∀i,i<l.length→(cs.getD i C0).kind=(l.getD i (0,0)).1∧(cs.getD i C0).ent=(l.getD i (0,0)).2:=by
 subst h;refine⟨by simp,λi hi=>?_⟩;have hi':i<cs.length:=by simpa using hi
 simp[ou,hi']
theorem ahv:((dJ (((5:Int):Rat)*((5:Int):Rat)) aw1).cs.map λc=>(c.kind,c.ent))=[(1,1),(1,2)]:=by decide +kernel
theorem ahB:((dJ (((3:Int):Rat)*((3:Int):Rat)) aw1).cs.map λc=>(c.kind,c.ent))=[(1,1),(4,1),(4,2)]:=by decide +kernel
theorem ahO:((dJ (((5:Int):Rat)*((5:Int):Rat)) aw2).cs.map λc=>(c.kind,c.ent))=[(1,0),(2,0)]:=by decide +kernel
theorem ahe:(dJ (((5:Int):Rat)*((5:Int):Rat)) aw2).es.length=0:=by decide +kernel
theorem agv:V8 (dJ (((5:Int):Rat)*((5:Int):Rat)) aw1).cs=false:=by decide +kernel
theorem MG{n:Int}(h:0≤n)(h2:n≤100):rz (n:Rat)≤12∧¬(n:Rat)<0:=⟨dh (NV n (by omega) (by omega)) (by decide),λhn=>by
 have:=Rat.intCast_lt_intCast.1 (show((n:Int):Rat)<((0:Int):Rat)from hn)
 omega⟩
def ZC(r:Rq):Bool:=decide (r.l.length≤6)&&decide (r.m.length≤6)
theorem Bj{r:Rq}:ZC r=true↔Ip r:=by
 unfold ZC Ip;simp
theorem afp{r:Rq}(h:¬(r.l.length≤6∧r.m.length≤6)):ZC r=false:=by
 rw[←Bool.not_eq_true,Bj];exact h
def vsB(p:Rq×Rq):Bool:=ZC p.1&&ZC p.2
def Au(e:EntR):Bool:=(decide (e.pts.length≤5)&&(decide (e.layer.size≤60)&&ZC e.rad))&&e.pts.all vsB
def KI(ls:List LayD)(es:List EntR):Bool:=decide (ls.length≤25)&&(ls.all (λl=>decide (l.name.size≤60))&&es.all Au)
theorem Cm{α:Type}{l:List α}{p:α→Bool}(d:α):l.all p=true↔∀j<l.length,p (l.getD j d)=true:=by
 rw[nI];constructor
 ·intro h j hj;have:l.getD j d∈l:=by simp[List.getD,hj]
  exact h _ this
 ·intro h x hx;obtain⟨j,hj,rfl⟩:=Nz hx;have:=h j hj;simpa[List.getD,hj]using this
theorem Pg{α:Type}{l:List α}{p:α→Bool}(d:α){j:Nat}(h:j<l.length)(h1:p (l.getD j d)=false):l.all p=false:=by
 rw[←Bool.not_eq_true,Cm d];intro h2;have:=h2 j h;rw[h1]at this;cases this
theorem ad9{ls:List LayD}{es:List EntR}(h:¬ls.length≤25):KI ls es=false:=by unfold KI;rw[decide_eq_false h];rfl
theorem aen{ls:List LayD}{es:List EntR}{x:Nat}(hx:x<ls.length)(h:¬(ls.getD x L0).name.size≤60):KI ls es=false:=by
 unfold KI;rw[Pg L0 hx (decide_eq_false h)];simp
theorem Ir{ls:List LayD}{es:List EntR}{x:Nat}(hx:x<es.length)(h:Au (es.getD x wK)=false):KI ls es=false:=by
 unfold KI;rw[Pg wK hx h];simp
theorem ahy{ls:List LayD}{es:List EntR}(h:ls.length≤25)(h1:∀j<ls.length,(ls.getD j L0).name.size≤60)(h2:∀j<es.length,Au (es.getD j wK)=true):KI ls es=true:=by
 unfold KI;rw[decide_eq_true h,(Cm wK).2 h2,(Cm L0).2 (λj hj=>decide_eq_true (h1 j hj))];rfl
theorem O8{e:EntR}(h:¬e.pts.length≤5∨¬e.layer.size≤60∨ZC e.rad=false):Au e=false:=by
 unfold Au;rcases h with h|h|h
 ·rw[decide_eq_false h];rfl
 ·rw[decide_eq_false h];simp
 ·rw[h];simp
theorem adh{e:EntR}{k:Nat}(hk:k<e.pts.length)(h:vsB (e.pts.getD k sD)=false):Au e=false:=by
 unfold Au;rw[Pg sD hk h];simp
theorem adT{e:EntR}(h1:e.pts.length≤5)(h2:e.layer.size≤60)(h3:ZC e.rad=true)(h4:∀k<e.pts.length,vsB (e.pts.getD k sD)=true):Au e=true:=by
 unfold Au;rw[decide_eq_true h1,decide_eq_true h2,h3,(Cm sD).2 h4];rfl
theorem ZK{e:EntR}(h:Au e=true):pJ e:=by
 unfold Au at h;simp only[fC,decide_eq_true_eq,nI]at h;obtain⟨⟨h1,h2,h3⟩,h4⟩:=h;refine⟨λp hp=>?_,Bj.1 h3,h1,h2⟩;have:=h4 p hp;unfold vsB at this;rw[fC,Bj,Bj]at this;exact this
theorem ada{ls:List LayD}{es:List EntR}(h:KI ls es=true):ls.length≤25∧(∀l∈ls,l.name.size≤1000)∧∀e∈es,pJ e:=by
 unfold KI at h;simp only[fC,decide_eq_true_eq,nI]at h;exact⟨h.1,λl hl=>dh (h.2.1 l hl) (by decide),λe he=>ZK (h.2.2 e he)⟩
end Go.Sw
namespace Go.Sw
open Go Go.Lib
theorem abR{e:EntR}(h:e.kind=3)(h1:(iY e.rad&&decide (0<qR e.rad))=false):nH e=false:=by
 unfold nH;rw[h1,decide_eq_false (show¬¬e.kind=3 fromλg=>g h)];simp
theorem adD{ls:List LayD}{x:Nat}(h:(!Du (ls.getD x L0))=true):qM ls x=some 1:=by
 unfold qM;rw[if_pos (by simpa using h)]
theorem adl{ls:List LayD}{x:Nat}(h:(!Du (ls.getD x L0))=false)(h2:sG ls (ls.getD x L0).name<(x:Nat)):qM ls x=some 5:=by
 unfold qM;rw[if_neg (by simpa using h),if_pos h2]
theorem aeH{ls:List LayD}{x:Nat}(h:(!Du (ls.getD x L0))=false)(h2:¬sG ls (ls.getD x L0).name<(x:Nat)):qM ls x=none:=by
 unfold qM;rw[if_neg (by simpa using h),if_neg h2]
theorem ad1{ls:List LayD}{es:List EntR}{x:Nat}(h:sG ls (es.getD x wK).layer<0):sH ls es x=some 4:=by
 unfold sH;rw[if_pos h]
theorem afn{ls:List LayD}{es:List EntR}{x:Nat}(h:¬sG ls (es.getD x wK).layer<0)(h2:(!nH (es.getD x wK))=true):sH ls es x=some 1:=by
 unfold sH;rw[if_neg h,if_pos (by simpa using h2)]
theorem adb{ls:List LayD}{es:List EntR}{x:Nat}(h:¬sG ls (es.getD x wK).layer<0)(h2:(!nH (es.getD x wK))=false):sH ls es x=none:=by
 unfold sH;rw[if_neg h,if_neg (by simpa using h2)]
end Go.Sw
namespace Go.Sw
open Go Go.RowKit
theorem ex_idxq{P:Program}{ρ:Operand→Value}{w:World}{d:Option Tmp}{ty:TypeId}{pos:String}{af:Array Edge}{gd:Option (Nat×Bool)}{t e:TypeId}{s:Nat}{x y:Operand}{g n c:Nat}{k:IntKind}{j:Nat}(ht:sliceOf P t=some (e,s))(hx:ρ x=.slice (some ⟨g,0,none⟩) n c)(hy:ρ y=.int k (j:Nat))(h1:j<n):
 (execOp ρ ⟨d,.indexAddr t x y,ty,pos,af,gd⟩).run P w=.ok (.value (.pointer (some ⟨g,j*s,none⟩))) w:=by
 have:=ex_idxr (w:=w) (d:=d) (ty:=ty) (pos:=pos) (af:=af) (gd:=gd) ht hx rfl hy rfl h1
 rwa [Addr.add_lit,xu]at this
def JEnd(P:Program)(kT T:TypeId)(s:Nat)(st:JS)(w:World)(X:List Nat)(us:List Value)(more:List Bx)(mo:Nat×Array MapEntry×Nat)(r:AV)(u:Value)(w':World):Prop :=
 ∃(more':List Bx) (mo':Nat×Array MapEntry×Nat),mo'.1=mo.1∧w'.heap[mo.1]?=some (.map mo'.2.1 mo'.2.2)∧(∀q∈more',(q.1∈bl more∨w.heap.size≤q.1)∧w'.heap[q.1]?=some (.cells q.2.2 q.2.1 (0,0)))∧(more'.Pairwise λa b=>a.1≠b.1) ∧
  (w'.os=w.os∧w'.tape=w.tape∧w'.output=w.output∧w.heap.size≤w'.heap.size∧∀k,k<w.heap.size→k≠mo.1→k ∉ bl more→w'.heap[k]?=w.heap[k]?)∧RepR w' (bl more'++X) u r∧(jgho P kT T s st).rep w' (bl more'++X) us more' mo'
theorem RepR.ext{w w':World}{X X':List Nat}{u:Value}{r:AV}(h:RepR w X u r)(e:Ext w X w' X'):RepR w' X' u r:=by
 cases h with
 |d h=>exact .d (h.ext e)
 |tup hl h=>exact .tup hl λi u v a b=>(h i u v a b).ext e
theorem jfin{P:Program}{kT T:TypeId}{s:Nat}{st:JS}{w w':World}{X:List Nat}{us:List Value}{more:List Bx}{mo:Nat×Array MapEntry×Nat}{r:AV}{u:Value}{m:Nat}(hB:Below w.heap.size w w')(hmore:∀q∈more,q.1∈X∧w.heap[q.1]?=some (.cells q.2.2 q.2.1 (0,0)))(hnd:more.Pairwise λa b=>a.1≠b.1)
 (hmap:w.heap[mo.1]?=some (.map mo.2.1 mo.2.2)) (hrep:jrep P kT T s st w X us more mo) (hn:st.n≤m) (hR:RepR w X u r):JEnd P kT T s ⟨st.sq,st.f,m⟩ w X us more mo r u w':=by
 have hext:Ext w X w' (bl more++X):=⟨hB.size,λk hk hx _=>⟨hB.block k hk,λhm=>by
  rcases oG.1 hm with hm|hm
  ·obtain⟨q,hq,rfl⟩:=iM.1 hm;exact hx (hmore q hq).1
  ·exact hx hm⟩⟩
 refine⟨more,mo,rfl,(hB.block _ (lt_of_heap hmap)).trans hmap,λq hq=>⟨.inl (iM.2 ⟨q,hq,rfl⟩),(hB.block _ (lt_of_heap (hmore q hq).2)).trans (hmore q hq).2⟩,hnd,⟨hB.os,hB.tape,hB.output,hB.size,λk hk _ _=>hB.block k hk⟩,hR.ext hext, ?_⟩;obtain⟨us',h1,h2,h3,h4,val,og,h5,h6,h7⟩:=hrep;exact⟨us',h1,h2.ext hext,h3,dh h4 hn,val,og,h5,λk=>(h6 k).ext hext,h7⟩
theorem jfound{sq:Rat}{sp:Spots}{s:ByteArray}{v:P2}{n:Nat}(h:0≤bestI sq v (spotsAt sp s) (spotsAt sp s).length):(jst sq (joinP sq sp s v).1 n)=jst sq sp n∧(joinP sq sp s v).2=(spotsAt sp s).getD (bestI sq v (spotsAt sp s) (spotsAt sp s).length).toNat P0:=by
 obtain⟨_,_,h3⟩:=bestI_ok sq v (spotsAt sp s) _ (kU _);rw[ER,if_neg (by omega)]at h3;unfold joinP;rw[h3];exact⟨rfl,rfl⟩
theorem jnew{sq:Rat}{sp:Spots}{s:ByteArray}{v:P2}{n:Nat}(h:bestI sq v (spotsAt sp s) (spotsAt sp s).length<0):(jst sq (joinP sq sp s v).1 (n+1))=(jst sq sp n).add s (vecC v)∧(joinP sq sp s v).2=v:=by
 obtain⟨_,_,h3⟩:=bestI_ok sq v (spotsAt sp s) _ (kU _);rw[ER,if_pos h]at h3;unfold joinP;rw[h3,jst_add];exact⟨rfl,rfl⟩
end Go.Sw
namespace Go.Sw
open Go Go.RowKit Go.Proofs Go.Shelf Go.Lib
set_option maxHeartbeats 2000000 in
set_option maxRecDepth 100000 in
theorem clone_at{P:Program}{ρ:Ren}(L:SlLaysE0.n41 P ρ)(i0:TypeInfo)(z:Value)(size bytes:Nat)(hi:P.info? (ρ.t 23)=some i0)(hz0:i0.zero=some z)(hz1:i0.size=size)(hz2:i0.bytes=bytes)(hzs:z.cells.size=size)(hsz:0<size)
 (z23:∀w,(Go.sizeOf (ρ.t 23)).run P w=.ok size w) (a:Addr) (n c:Nat) (news:List Value) (w:World) (hl:news.length=n*size) (hn:n≤maxLen) (hbig:n*bytes≤140737488355328)
 (hc:∀j u,news[j]?=some u→w.cell? (a.add j)=some u) (h1:∀u∈news,u.oneCell'=true) :
 Calls P (ρ.f 41) #[.slice (some a) n c] w λe w'=>∃v',e=.returned v'∧w'.ownsRow w.heap.size (ρ.t 23) size v' n news∧Below w.heap.size w w':=by
 have mixed:=L.mixed;have t4:=L.t4;have a4:=L.a4;have z4:=L.z4;have v4:=L.v4;have t22:=L.t22;have a22:=L.a22;have z22:=L.z22;have v22:=L.v22;have q22:∀(w:World) (a:Option Addr) (n c n' c':Nat),(binOp .eql (ρ.t 22) (.slice a n c) (.slice none n' c')).run P w=.ok (.bool a.isNone) w:=λw a n c n' c'=>Lib.run_eql_slice_nil w _ _ a n c n' c' L.t22
 have u22:∀w,Sem.run P (underlying (ρ.t 22)) w=.ok (TypeDesc.slice (ρ.t 23)) w:=run_underlying t22;have A:Aside (∀j u,news[j]?=some u→w.cell? (a.add j)=some u):=hc;clear hc;obtain⟨_,_,FG⟩:=L.f41
 go_enter FG,SlBodyN.n41_ntmps ρ
 go_wp2_with (at_builtin;refine wpList_append_own _ rfl _ _ (ρ.t 22) rfl w.heap.size (ρ.t 23) i0 z size bytes t22 hi hz0 hz1 hz2 hzs hsz _ _ _ rfl (World.ownsRow_made w #[] 0 (kU _) (oW _) (by simp)) a n c news rfl ?qc1 ?qc2 ?qc3 ?qc4 ?qc5 ?qc6 ?_)
 case qc1=>exact hl
 case qc2=>exactλj u hj=>Lib.cell?_alloc_some _ (A.out j u hj)
 case qc3=>exact h1
 case qc4=>rw[xu];exact hn
 case qc5=>rw[xu];exact hbig
 case qc6=>simp
 intro v' w1 hown hgrow hnil
 go_wp2
 go_ret
 exact⟨v',rfl,by simpa using hown,((Below.refl _ w).alloc (kU _) _).grown hgrow (by simp) (by intro k hk;simp[Value.ownBlock]at hk;omega)⟩
theorem Uo{P:Program}[Wld P]{ρ:Ren}(L:SlLaysE0.n41 P ρ)(hb:hasBody P (ρ.f 41)=true)(i0:TypeInfo)(z:Value){k:Nat}(hi:P.info? (ρ.t 23)=some i0)(hz0:i0.zero=some z)(hz1:i0.size=k)(hby:i0.bytes≤1000000)(hzs:z.cells.size=k)(hk:0<k)
 (z23:∀w,(Go.sizeOf (ρ.t 23)).run P w=.ok k w) {es:List (List Cell)} (hn:es.length≤1000000):Den P (ρ.f 41) [.c (.sl k es)] (.c (.sl k es)):=by
 refine Den.of ⟨hb,λw X vs hW hX hl hr=>?_⟩ rfl
 match vs,hl with
 |[u],_ =>
 have hu:RepC w X u (.sl k es):=by
  have:=hr 0 u _ rfl rfl;cases this with
  |c h=>exact h
 obtain⟨A,cap,uss,rfl,hcap,hmx,hc,hS⟩:=RepS.of_sl hu
 have hone:∀us∈uss,∀u∈us,u.oneCell'=true:=λus hu=>by
  obtain⟨j,hj,rfl⟩:=Nz hu;exact(hS.get j _ _ (jP hj) (jP (by rw[←hS.len];exact hj))).one
 have hfl:uss.flatten.length=es.length*k:=by rw[flatten_len hS.sz,hS.len]
 cases A with
 |none =>
  have h0:uss.flatten=[]:=by
   by_cases h:uss.flatten=[]
   ·exact h
   ·obtain⟨ad,h1,_⟩:=hc h;cases h1
  rw[h0]at hfl
  have:es=[]:=by
   rcases Dw es.length with h|h
   ·exact Nl h
   ·have:=Nat.mul_pos h hk;simp at hfl;omega
  subst this;refine Calls.mono (AnyE.slices_Clone_nil L _ _ w) ?_;rintro e w' ⟨rfl,rfl⟩;exact⟨_,rfl,(RepR.d (.c (RepC.nil _ _ _))).f,Below.refl _ _⟩
 |some a =>
  refine Calls.mono (clone_at L i0 z k i0.bytes hi hz0 hz1 rfl hzs hk z23 a es.length cap uss.flatten w hfl (by unfold maxLen;omega) (dh (RI hn hby) (by omega)) (λj u hj=>?_) (λu hu=>?_)) ?_
  ·obtain⟨ad,h1,_,_,h2⟩:=hc (λh=>by rw[h]at hj;cases hj);cases h1;exact h2 j u hj
  ·obtain⟨us,h1,h2⟩:=List.mem_flatten.1 hu;exact hone us h1 u h2
  ·rintro e w' ⟨v',rfl,hown,hB⟩;have hext:=Ext.call X hB;have hS':=hS.ext hext;refine⟨v',rfl,(RepR.d (.c ?_)).f,hB⟩;rcases hown with⟨_,⟨rfl,h0⟩|⟨g,cap',cur,rfl,h1,h2,h3,h4,h5,h6⟩⟩
   ·have:es=[]:=Nl h0;subst this;exact RepC.nil _ _ _
   ·refine RepS.sl hS' (λhne=>?_) h3 (by unfold maxLen at h4;omega)
    have hgl:g<w'.heap.size:=by
     rcases EW g w'.heap.size with h'|h'
     ·exact h'
     ·rw[Array.getElem?_eq_none h']at h2;cases h2
    refine⟨_,rfl,hgl,λhm=>?_,λj u hj=>?_⟩
    ·have:=hX g hm;omega
    ·rw[←h6,Fe]at hj;split at hj
     ·rw[Addr.add_lit,xu,cell_of_row w' g j cur _ _ h2,←Array.getElem?_toList];exact hj
     ·cases hj
theorem RepC.sl_nil{w:World}{X:List Nat}{u:Value}{s k:Nat}(h:RepC w X u (.sl s [])):RepC w X u (.sl k []):=by
 cases h with
 |sl A n cap s uss es hn hu hc hcap hmx hs hr =>
  exact .sl A n cap k uss [] hn hu hc hcap hmx (λi us e a b=>by simp at b) (λi us e a b=>by simp at b)
theorem WX{P:Program}[Wld P]{f:FuncId}{xs:List AV}{s k:Nat}{es:List (List Cell)}{y:AV}(hn:noTup xs=true)(h:s=k∨es=[])(hd:Den P f xs (.tup [.c (.sl s es),y])):Den P f xs (.tup [.c (.sl k es),y]):=by
 rcases h with rfl|rfl
 ·exact hd
 ·obtain⟨hb,hd⟩:=hd.old hn;refine Den.of ⟨hb,λw X vs hW hX hl hr=>(hd w X vs hW hX hl hr).mono ?_⟩ hn;rintro e w' ⟨u,rfl,hR,hB⟩;refine⟨u,rfl, ?_,hB⟩;obtain⟨us,vs',G,h1,h2,h3,h4⟩:=hR;rcases h1 with⟨rfl,h1⟩|⟨_,_,h1⟩
  ·cases h1;cases h4 with
   |d hd t =>
    cases hd with
    |c hc=>exact⟨_,_,G,.inl ⟨rfl,rfl⟩,h2,h3,.d (.c hc.sl_nil) t⟩
  ·cases h1
theorem den_clone_own{P:Program}[Wld P]{ρ:Ren}(L:SlLaysE0.n41 P ρ)(hb:hasBody P (ρ.f 41)=true)(i0:TypeInfo)(z:Value){k:Nat}(hi:P.info? (ρ.t 23)=some i0)(hz0:i0.zero=some z)(hz1:i0.size=k)(hby:i0.bytes≤1000000)(hzs:z.cells.size=k)(hk:0<k)
 (z23:∀w,(Go.sizeOf (ρ.t 23)).run P w=.ok k w) {es:List (List Cell)} (hn:es.length≤1000000):Den P (ρ.f 41) [.c (.sl k es)] (.own (ρ.t 23) k es):=by
 refine Den.of ⟨hb,λw X vs hW hX hl hr=>?_⟩ rfl
 match vs,hl with
 |[u],_ =>
 have hu:RepC w X u (.sl k es):=by
  have:=hr 0 u _ rfl rfl;cases this with
  |c h=>exact h
 obtain⟨A,cap,uss,rfl,hcap,hmx,hc,hS⟩:=RepS.of_sl hu
 have hone:∀us∈uss,∀u∈us,u.oneCell'=true:=λus hu=>by
  obtain⟨j,hj,rfl⟩:=Nz hu;exact(hS.get j _ _ (jP hj) (jP (by rw[←hS.len];exact hj))).one
 have hfl:uss.flatten.length=es.length*k:=by rw[flatten_len hS.sz,hS.len]
 cases A with
 |none =>
  have h0:uss.flatten=[]:=by
   by_cases h:uss.flatten=[]
   ·exact h
   ·obtain⟨ad,h1,_⟩:=hc h;cases h1
  rw[h0]at hfl
  have:es=[]:=by
   rcases Dw es.length with h|h
   ·exact Nl h
   ·have:=Nat.mul_pos h hk;simp at hfl;omega
  subst this;refine Calls.mono (AnyE.slices_Clone_nil L _ _ w) ?_;rintro e w' ⟨rfl,rfl⟩;exact⟨_,rfl,⟨[_],[_],[],.inr ⟨rfl,rfl,rfl⟩,by simp,List.nodup_nil,.own0 hk .nil⟩,Below.refl _ _⟩
 |some a =>
  refine Calls.mono (clone_at L i0 z k i0.bytes hi hz0 hz1 rfl hzs hk z23 a es.length cap uss.flatten w hfl (by unfold maxLen;omega) (dh (RI hn hby) (by omega)) (λj u hj=>?_) (λu hu=>?_)) ?_
  ·obtain⟨ad,h1,_,_,h2⟩:=hc (λh=>by rw[h]at hj;cases hj);cases h1;exact h2 j u hj
  ·obtain⟨us,h1,h2⟩:=List.mem_flatten.1 hu;exact hone us h1 u h2
  ·rintro e w' ⟨v',rfl,hown,hB⟩;refine⟨v',rfl, ?_,hB⟩;rcases hown with⟨_,⟨rfl,h0⟩|⟨g,cap',cur,rfl,h1,h2,h3,h4,h5,h6⟩⟩
   ·have:es=[]:=Nl h0;subst this;exact⟨[_],[_],[],.inr ⟨rfl,rfl,rfl⟩,by simp,List.nodup_nil,.own0 hk .nil⟩
   ·have hS':=hS.ext ((Ext.call X hB).add h1);have hcur:cur=(uss.flatten++cur.toList.drop (es.length*k)).toArray:=by rw[←h6,U5]
    have hlen:(uss.flatten++cur.toList.drop (es.length*k)).length=cur.size:=by rw[←h6,U5];simp
    exact⟨[_],[_],[g],.inr ⟨rfl,rfl,rfl⟩,by simpa using h1,by simp,.own hk (by rw[←hcur];exact h2) hS' (by rw[hlen];exact h5.symm) h4 h3 .nil⟩
end Go.Sw
namespace Go.Sw
open Go
theorem ZU{a b c p:P2}(h:¬jE a b c=0):bF (ctr a b c) (Ru a b c) (!decide (0<jE a b c)) a c p=zY a b c p:=by
 obtain⟨e1,e2,e3,hq⟩:=QI h;rw[abT hq e1 e3];exact PO h
theorem af7{l1 l2:ByteArray}{a b c d:P2}{r1 r2:Rq}(hl:(!(l1.toList == l2.toList))=false):uz [a,b] [c,d]=dB ⟨1,l1,[a,b],r1⟩ ⟨1,l2,[c,d],r2⟩:=by
 have h:(l1.toList == l2.toList)=true:=by simpa using hl
 rw[Lj,h,KP,mD,mD,mD,mD];unfold uz;rw[Bf];simp
theorem YH{e f:Ent}(hl:(!(e.layer.toList == f.layer.toList))=true):false=dB e f:=by
 have h:(e.layer.toList == f.layer.toList)=false:=by simpa using hl
 unfold dB eqS;rw[h];rfl
theorem ahw{l1 l2:ByteArray}{a c:P2}{q1 q2:Rat}(hl:(!(l1.toList == l2.toList))=false):(pE a c&&decide (q1=q2))=dB ⟨3,l1,[a],qI q1⟩ ⟨3,l2,[c],qI q2⟩:=by
 have h:(l1.toList == l2.toList)=true:=by simpa using hl
 rw[Kz,h,KP]
theorem ahx{l1 l2:ByteArray}{a m b c n d:P2}{r1 r2:Rq}(hl:(!(l1.toList == l2.toList))=false):(uz [a,m,b] [c,n,d] ||(uz [a,b] [c,d]&&(zY a m b n&&zY c n d m)))=dB ⟨2,l1,[a,m,b],r1⟩ ⟨2,l2,[c,n,d],r2⟩:=by
 have h:eqS l1 l2=true:=by have:(l1.toList == l2.toList)=true:=by simpa using hl
                           exact this
 rw[Bf,adY,nO];unfold sE;simp only[h,true_and]
theorem rpS{l:List Ent}{x:Nat}(h:x<l.length):aY (l.take (x+1))=aY (l.take x)++[(l.take x).any λf=>dB f (l.getD x E0)]:=by
 rw[Jf h,N7]
theorem anS{l:List Ent}{e:Ent}{y:Nat}(h:y<l.length):((l.take (y+1)).any λf=>dB f e)=(((l.take y).any λf=>dB f e)||dB (l.getD y E0) e):=by
 rw[Jf h,List.any_append];simp
theorem yU{l:List Ent}(h:∀e∈l,okV e){x:Nat}(hx:x<l.length):okV (l.getD x E0):=h _ (Dy hx)
@[reducible] def LU(p:Nat × Nat):List Cell:=[.v (.int .i64 (p.1:Nat)),.v (.int .i64 (p.2:Nat))]
def Vx(l:List Ent)(i n:Nat)(v:P2)(k j:Nat):Bool:=eqS (l.getD k E0).layer (l.getD i E0).layer&&((k != i||j != n)&&pE v ((aS (l.getD k E0)).getD j P0))
def ZF(l:List Ent)(i n:Nat)(v:P2)(k:Nat):Bool:=(List.range (aS (l.getD k E0)).length).any (Vx l i n v k)
def Uh(l:List Ent)(i n:Nat)(v:P2)(k m:Nat):Bool:=(List.range k).any (ZF l i n v) ||(List.range m).any (Vx l i n v k)
theorem aha{l:List Ent}{i n k m:Nat}{v:P2}:Uh l i n v k (m+1)=(Uh l i n v k m||Vx l i n v k m):=by
 unfold Uh;rw[U0,List.any_append];simp[Bool.or_assoc]
theorem afA{l:List Ent}{i n k m:Nat}{v:P2}(h:m=(aS (l.getD k E0)).length):Uh l i n v k m=Uh l i n v (k+1) 0:=by
 subst h;unfold Uh;rw[U0,List.any_append];simp[ZF]
def ZB(l:List Ent)(i n:Nat):Bool:=Uh l i n ((aS (l.getD i E0)).getD n P0) l.length 0
def UU(l:List Ent)(i n:Nat):List (Nat×Nat):=((List.range n).filter λk=>!ZB l i k).map λk=>(i,k)
def Bq(l:List Ent)(x n:Nat):List (Nat×Nat):=((List.range x).flatMap λi=>UU l i (aS (l.getD i E0)).length)++UU l x n
def bZ(l:List Ent):List (Nat×Nat):=Bq l l.length 0
theorem agN{l:List Ent}{x n:Nat}(h:(!ZB l x n)=true):Bq l x (n+1)=Bq l x n++[(x,n)]:=by
 unfold Bq UU;rw[U0,SB];simp[h]
theorem ahk{l:List Ent}{x n:Nat}(h:(!ZB l x n)=false):Bq l x (n+1)=Bq l x n:=by
 unfold Bq UU;rw[U0,SB];simp[h]
theorem ach{l:List Ent}{x n:Nat}(h:n=(aS (l.getD x E0)).length):Bq l x n=Bq l (x+1) 0:=by
 subst h;unfold Bq;rw[U0,ZE];simp[UU]
theorem Rl{l:List Ent}{i n:Nat}:(UU l i n).length≤n:=by
 unfold UU;rw[bK];have:=dY (λk=>!ZB l i k) (List.range n)
 rwa [List.length_range]at this
theorem CP(e:Ent):(aS e).length≤2:=by have:=Ej e;omega
theorem Bz{l:List Ent}:∀(x:Nat) {n:Nat},(Bq l x n).length≤2*x+n
 |0,n=>by have:=Rl (l:=l) (i:=0) (n:=n);unfold Bq;simpa using this
 |x+1,n=>by
  have h1:=Bz (l:=l) x (n:=(aS (l.getD x E0)).length);rw[ach rfl]at h1;have h2:Bq l (x+1) n=Bq l (x+1) 0++UU l (x+1) n:=by unfold Bq;simp[UU]
  have h3:=Rl (l:=l) (i:=x+1) (n:=n);have h4:=CP (l.getD x E0);rw[h2,gY];omega
theorem agB{l:List Ent}{x:Nat}(h:x<l.length):l.zipIdx.getD x N0=(l.getD x E0,x):=by
 simp[ou,h]
theorem Ry{l:List Ent}{i n:Nat}{v:P2}(hi:i<l.length):Aq l.zipIdx (l.getD i E0).layer i n v=Uh l i n v l.length 0:=by
 unfold Aq Uh;rw[SL];simp only[List.range_zero,List.any_nil,NH];rw[Bf,XF,XF]
 have key:∀k<l.length,metAt l.zipIdx (l.getD i E0).layer i n v k=ZF l i n v k:=λk hk=>by
  have hz:=agB hk;unfold ZF;rcases lV (l.getD k E0)with hE|⟨a,b,hE⟩
  ·rw[Gh (by rw[SL];exact hk) (by rw[hz];exact hE),hE];rfl
  ·rw[FK (by rw[SL];exact hk) (by rw[hz];exact hE),hE,hz];simp only[iH,jf,U0,List.range_zero,sS,List.any_append,List.any_cons,List.any_nil,NH,Vx,hE,List.getD_cons_zero,List.getD_cons_succ,mD];cases eqS (l.getD k E0).layer (l.getD i E0).layer<;>simp
 constructor
 ·rintro ⟨k,hk,h⟩;exact⟨k,hk,by rw[←key k (by simpa using hk)];exact h⟩
 ·rintro ⟨k,hk,h⟩;exact⟨k,hk,by rw[key k (by simpa using hk)];exact h⟩
theorem af6{l:List Ent}{i:Nat}(hi:i<l.length):(opn l.zipIdx i).map (λc=>(c.ent,c.fin))=UU l i (aS (l.getD i E0)).length:=by
 have hz:=agB hi;have h1:=uQ (l:=l.zipIdx) (x:=i) (by rw[SL];exact hi)
 unfold opn;rw[h1,hz];simp only;rcases lV (l.getD i E0)with hE|⟨a,b,hE⟩
 ·rw[hE];rfl
 ·rw[hE];simp only[iH,jf];unfold UU zn;rw[Ry hi,Ry hi];have e0:ZB l i 0=Uh l i 0 a l.length 0:=by unfold ZB;rw[hE];rfl
  have e1:ZB l i 1=Uh l i 1 b l.length 0:=by unfold ZB;rw[hE];rfl
  rw[←e0,←e1];simp only[U0,List.range_zero,sS,SB,fO];cases hA:ZB l i 0<;>cases hB:ZB l i 1<;>simp[hA,hB]
theorem afo(l:List Ent):(jU l.zipIdx).map (λc=>(c.ent,c.fin))=bZ l:=by
 unfold jU bZ Bq;rw[List.map_flatMap,SL];simp only[UU,List.range_zero,List.filter_nil,iD,gy];rw[List.flatMap_def,List.flatMap_def];refine congrArg List.flatten (List.map_congr_left λi hi=>?_);exact af6 (by simpa using hi)
end Go.Sw
