/-
  Rules of the abstract run, plain laws, and what functions answer, for the law RepairDistances.
  Conditions: none.
-/
import Derived.Test.YtmniihkenijjpaaGreatDoorQ12
set_option linter.all false
namespace Go.Sw
open Go
def ccE(a b c p:P2):Rat:=cU3 a b c*(p.1-a.1)+cV3 a b c*(p.2-a.2)-qB a b c*((p.1-a.1)*(p.1-a.1)+(p.2-a.2)*(p.2-a.2))
theorem Xx{a b c p:P2}:Wj a b c p=true↔(qB a b c≠0∧ccE a b c p=0∧(p=a∨p=c∨0<kP a p c*kP a b c)):=by
 unfold Wj ccE;rw [decide_eq_true_eq];constructor
 ·rintro ⟨h1,h2,h3⟩;exact ⟨h1,by rw [h2];grind,h3⟩
 ·rintro ⟨h1,h2,h3⟩;exact ⟨h1,by grind,h3⟩
theorem aaZ{kd:Int}{ly:ByteArray}{a m b:P2}{rd:Rq}:CU ⟨kd,ly,[a,m,b],rd⟩=decide (qB a m b=0):=rfl
theorem abM{a b c p:P2}(h:qB a b c=0):Wj a b c p=false:=by
 rw [Bool.eq_false_iff];intro e;exact (Xx.1 e).1 h
@[reducible] def nJ(q:Rat):Rq:=⟨decide (q.num<0),lim q.num.natAbs,decide ((q.den:Int)<0),lim (q.den:Int).natAbs⟩
theorem TU{α:Type}{p:List α→Prop}(h0:p [])(h1:∀l e,p l→p (l++[e]))(l:List α):p l:=by
 have key:∀r:List α,p r.reverse:=λr=>by
  induction r with
  |nil=>exact h0
  |cons e r ih=>rw [List.reverse_cons];exact h1 _ _ ih
 have:=key l.reverse
 rwa [List.reverse_reverse] at this
theorem DN(l:List Ent)(e:Ent):zh (l++[e])=zh l++[(e,(zh l).any λp=>!p.2 && iP e p.1)]:=by
 unfold zh;rw [List.foldl_append];rfl
theorem Jc(l:List Ent):(zh l).map (·.1)=l:=by
 induction l using TU with
 |h0=>rfl
 |h1 l e ih=>rw [DN,List.map_append,ih];rfl
theorem Cc(l:List Ent):(zh l).length=l.length:=by
 have:=congrArg List.length (Jc l);simpa using this
theorem jR(l:List Ent):(fK l).length=l.length:=by unfold fK;rw [List.length_map,Cc]
theorem XI{l:List Ent}{k:Nat}(h:k<l.length):(zh l)[k]?=some (l.getD k E0,(fK l).getD k false):=by
 have h1:k<(zh l).length:=by rw [Cc];exact h
 have e1:((zh l).map (·.1))[k]?=l[k]?:=by rw [Jc]
 rw [List.getElem?_map,List.getElem?_eq_getElem h1,List.getElem?_eq_getElem h] at e1;simp only [Option.map_some,Option.some.injEq] at e1;rw [List.getElem?_eq_getElem h1];congr 1;refine Prod.ext ?_ ?_
 ·rw [e1];simp [List.getD_eq_getElem?_getD,h]
 ·simp [fK,List.getD_eq_getElem?_getD,h1]
theorem WZ{l:List Ent}{x:Nat}(h:x<l.length):l.take (x+1)=l.take x++[l.getD x E0]:=by
 rw [List.take_succ,List.getElem?_eq_getElem h];simp [List.getD_eq_getElem?_getD,h]
def yS(l:List Ent)(x:Nat):List Bool:=fK (l.take x)++List.replicate (l.length-x) false
theorem XL{l:List Ent}{x:Nat}(h:x≤l.length):(yS l x).length=l.length:=by
 unfold yS;rw [List.length_append,jR,List.length_take,List.length_replicate];omega
theorem adZ(l:List Ent):yS l 0=List.replicate l.length false:=rfl
theorem YO(l:List Ent):yS l l.length=fK l:=by unfold yS;rw [List.take_length,Nat.sub_self];simp
def uO(l:List Ent)(x k:Nat):Bool:=((zh (l.take x)).take k).any λp=>!p.2 && iP (l.getD x E0) p.1
theorem EC{l:List Ent}{x k:Nat}(hx:x<l.length)(hk:k<x):uO l x (k+1)=(uO l x k || (!(yS l x).getD k false && iP (l.getD x E0) (l.getD k E0))):=by
 have hk':k<(l.take x).length:=by simp;omega
 unfold uO;rw [List.take_succ,List.any_append,XI hk'];have e1:(l.take x).getD k E0=l.getD k E0:=by simp [List.getD_eq_getElem?_getD,hk,List.getElem?_take]
 have e2:(yS l x).getD k false=(fK (l.take x)).getD k false:=by
  unfold yS;simp only [List.getD_eq_getElem?_getD];rw [List.getElem?_append_left (by rw [jR];exact hk')]
 rw [e1,e2];simp
theorem Ju{l:List Ent}{x:Nat}(hx:x≤l.length):uO l x x=((zh (l.take x)).any λp=>!p.2 && iP (l.getD x E0) p.1):=by
 unfold uO;rw [List.take_of_length_le (by rw [Cc,List.length_take];omega)]
theorem PU{l:List Ent}{x k:Nat}(hx:x<l.length)(hk:k<x)(h:uO l x (k+1)=true):uO l x x=true:=by
 rw [Ju (by omega)];unfold uO at h;obtain ⟨p,h1,h2⟩:=List.any_eq_true.1 h;exact List.any_eq_true.2 ⟨p,List.mem_of_mem_take h1,h2⟩
theorem Jm{l:List Ent}{x:Nat}(hx:x<l.length):yS l (x+1)=(yS l x).set x (uO l x x):=by
 unfold yS
 have h1:fK (l.take (x+1))=fK (l.take x)++[uO l x x]:=by
  rw [WZ hx];unfold fK;rw [DN,List.map_append,Ju (by omega)];rfl
 have h2:List.replicate (l.length-x) false=false :: List.replicate (l.length-(x+1)) false:=by
  rw [show l.length-x=(l.length-(x+1))+1 by omega];rfl
 have h3:(fK (l.take x)).length=x:=by rw [jR,List.length_take];omega
 rw [h1,h2,List.set_append_right _ _ (by omega),h3,Nat.sub_self];simp
theorem adE{l:List Ent}{x:Nat}(hx:x<l.length)(h:uO l x x=false):yS l (x+1)=yS l x:=by
 rw [Jm hx,h];have h3:(fK (l.take x)).length=x:=by rw [jR,List.length_take];omega
 have h2:List.replicate (l.length-x) false=false :: List.replicate (l.length-(x+1)) false:=by
  rw [show l.length-x=(l.length-(x+1))+1 by omega];rfl
 unfold yS;rw [h2,List.set_append_right _ _ (by omega),h3,Nat.sub_self];simp
theorem adf{l:List Ent}{x k:Nat}(hx:x<l.length)(hk:k<x)(h:uO l x (k+1)=true):yS l (x+1)=(yS l x).set x true:=by
 rw [Jm hx,PU hx hk h]
structure EntR where
 kind:Int
 layer:ByteArray
 pts:List (Rq × Rq)
 rad:Rq
structure LayD where
 name:ByteArray
 kind:Int
 depth:Int
@[reducible] def QH(r:Rq):List Cell:=[.v (.bool r.a),bJ r.l,.v (.bool r.b),bJ r.m]
@[reducible] def nZ(p:Rq × Rq):List Cell:=[.v (.bool p.1.a),bJ p.1.l,.v (.bool p.1.b),bJ p.1.m,.v (.bool p.2.a),bJ p.2.l,.v (.bool p.2.b),bJ p.2.m]
@[reducible] def dL(e:EntR):List Cell:=[.v (.int .i64 e.kind),.v (.string e.layer),.sl 8 (e.pts.map nZ),.v (.bool e.rad.a),bJ e.rad.l,.v (.bool e.rad.b),bJ e.rad.m]
@[reducible] def dB(l:LayD):List Cell:=[.v (.string l.name),.v (.int .i64 l.kind),.v (.int .i64 l.depth)]
def vR(r:Rq):Bool:=iO r.a r.l r.b r.m
def qR(r:Rq):Rat:=((dW r.a (val r.l):Int):Rat) / ((dW r.b (val r.m):Int):Rat)
def CS(r:Rq):Prop:=r.l.length≤6∧r.m.length≤6
theorem VW(q:Rat):((q.num:Int):Rat) / ((q.den:Int):Rat)=q:=by
 have h:=Rat.num_divInt_den q
 rwa [Rat.divInt_eq_div] at h
theorem Nr(q:Rat):qR (nJ q)=q:=by
 unfold qR nJ;simp only;rw [aA,zy,aA,zy,VW]
theorem aex(q:Rat):vR (nJ q)=true:=Ky q
theorem xI{r:Rq}(h:vR r=true):r=nJ (qR r):=by
 obtain ⟨q,h1,h2,h3,h4⟩:=P7 h;obtain ⟨a,l,b,m⟩:=r;simp only at h1 h2 h3 h4;subst h1 h2 h3 h4;exact (congrArg nJ (Nr q)).symm
theorem Ci{q:Rat}(h:CS (nJ q)):rz q≤12:=by
 obtain ⟨h1,h2⟩:=h;have h1':(lim q.num.natAbs).length≤6:=h1;have h2':(lim (q.den:Int).natAbs).length≤6:=h2;unfold rz sz;omega
@[reducible] def D8:Rat:=((1:Int):Rat) / ((1000:Int):Rat)
def Wh(a:Rat):Option Nat:=(List.range 31).find? λn=>decide (10 ^ n % a.den=0)
def Az(q:Rat):Bool:=decide (¬((10000000:Int):Rat)<q) && (decide (¬q < -((10000000:Int):Rat)) && (Wh (q*D8)).isSome)
def iq(r:Rq):Bool:=vR r && Az (qR r)
theorem zM(q:Rat):iq (nJ q)=Az q:=by unfold iq;rw [aex,Nr];rfl
def kG(e:EntR):Bool:=decide (e.kind=1∧e.pts.length=2∨e.kind=2∧e.pts.length=3∨e.kind=3∧e.pts.length=1) && (e.pts.all (λp=>iq p.1 && iq p.2) && (decide (¬e.kind=3) || (iq e.rad && decide (0<qR e.rad))))
def rE(e:EntR):Prop:=(∀p∈e.pts,CS p.1∧CS p.2)∧CS e.rad∧e.pts.length≤5∧e.layer.size≤60
def Zm(c:Nat):Bool:=decide (97≤c∧c≤122) || decide (65≤c∧c≤90)
def dgB(c:Nat):Bool:=decide (48≤c∧c≤57)
def QE(c:Nat):Bool:=Zm c || (dgB c || (decide (c=95) || decide (c=45)))
def rnN(s:ByteArray):Nat:=((oH s).takeWhile QE).length
def Gm(s:ByteArray):Bool:=decide (0<s.size) && (decide (s.size≤24) && (Zm ((oH s).getD 0 0) && decide (rnN s=s.size)))
theorem Zd(p:Nat→Bool):∀(l:List Nat) (x:Nat),x≤l.length→(∀j<x,p (l.getD j 0)=true)→(x<l.length→p (l.getD x 0)=false)→(l.takeWhile p).length=x
 |[],x,h,_,_=>by simp at h;subst h;rfl
 |c :: r,0,_,_,h2=>by
  have:=h2 (by simp);simp only [List.getD_cons_zero] at this;simp [List.takeWhile_cons,this]
 |c :: r,x+1,h,h1,h2=>by
  have h3:=h1 0 (by omega);simp only [List.getD_cons_zero] at h3;rw [List.takeWhile_cons,if_pos h3,List.length_cons];rw [Zd p r x (by simpa using h) (λj hj=>by simpa using h1 (j+1) (by omega)) (λhx=>by simpa using h2 (by simpa using hx))]
theorem UF{s:ByteArray}{x:Nat}(h:x≤s.size)(h1:∀j<x,QE ((oH s).getD j 0)=true)(h2:x<s.size→QE ((oH s).getD x 0)=false):rnN s=x :=
 Zd QE (oH s) x (by rw [kZ];exact h) h1 (λhx=>h2 (by rwa [kZ] at hx))
theorem Tc{s:ByteArray}(h:(!(s.toList == (ByteArray.mk #[]).toList))=true):0<s.size:=by
 rw [uF] at h;have h1:¬oH s=oH (ByteArray.mk #[]):=by simpa using h
 refine Decidable.byContradiction λhn=>h1 ?_
 have:(oH s).length=0:=by rw [kZ];omega
 rw [List.eq_nil_of_length_eq_zero this];rfl
theorem WO{s:ByteArray}(h:(!(s.toList == (ByteArray.mk #[]).toList))=false):s.size=0:=by
 rw [uF] at h;have h1:oH s=oH (ByteArray.mk #[]):=by simpa using h
 rw [← kZ,h1];rfl
theorem Z4{s:ByteArray}(h:s.size=0∨¬s.size≤24∨Zm ((oH s).getD 0 0)=false):Gm s=false:=by
 unfold Gm;rcases h with h|h|h
 ·rw [h];rfl
 ·rw [decide_eq_false h];simp
 ·rw [h];simp
theorem abp{s:ByteArray}(h1:0<s.size)(h2:s.size≤24)(h3:Zm ((oH s).getD 0 0)=true):Gm s=decide (rnN s=s.size):=by
 unfold Gm;rw [decide_eq_true h1,decide_eq_true h2,h3];simp
def AA(l:LayD):Bool:=Gm l.name && decide (((l.kind=1∨l.kind=3)∧1≤l.depth∧l.depth≤10000000)∨((l.kind=2∨l.kind=4)∧l.depth=0))
def Lc{α:Type}(n:Nat)(f:Nat→Option α):Option α:=(List.range n).findSome? f
theorem tK{α:Type}{n:Nat}{f:Nat→Option α}(h:∀j<n,f j=none):Lc n f=none:=by
 unfold Lc;rw [List.findSome?_eq_none_iff];intro x hx;exact h x (by simpa using hx)
theorem wz{α:Type}{f:Nat→Option α}{x:Nat}{r:α}:∀{n:Nat},x<n→(∀j<x,f j=none)→f x=some r→Lc n f=some r
 |0,hx,_,_=>by omega
 |n+1,hx,h,hr=>by
  unfold Lc;rw [List.range_succ,List.findSome?_append];rcases Nat.lt_or_ge x n with h1|h1
  ·have:=wz (n:=n) h1 h hr;unfold Lc at this;rw [this];rfl
  ·have:x=n:=by omega
   subst this;have h2:=tK h;unfold Lc at h2;rw [h2,List.findSome?_cons,hr];rfl
theorem dN{p:Nat→Prop}{x:Nat}(h:∀j<x,p j)(h1:p x):∀j<x+1,p j:=λj hj=>by
 rcases Nat.lt_or_ge j x with g|g
 ·exact h j g
 ·have:j=x:=by omega
  subst this;exact h1
def L0:LayD:=⟨⟨#[]⟩,0,0⟩
def rU:EntR:=⟨0,⟨#[]⟩,[],⟨false,[],false,[]⟩⟩
def oh(ls:List LayD)(s:ByteArray):Int:=match Lc ls.length (λi=>if eqS (ls.getD i L0).name s=true then some i else none) with
 |some i=>((i:Nat):Int)
 |none=>-1
theorem zI{ls:List LayD}{s:ByteArray}{x:Nat}(hx:x<ls.length)(h:∀j<x,eqS (ls.getD j L0).name s=false)(h1:eqS (ls.getD x L0).name s=true):oh ls s=(x:Nat):=by
 unfold oh;rw [wz (x:=x) (r:=x) hx (λj hj=>by rw [h j hj];rfl) (by rw [h1];rfl)]
theorem Ru{ls:List LayD}{s:ByteArray}(h:∀j<ls.length,eqS (ls.getD j L0).name s=false):oh ls s = -1:=by
 unfold oh;rw [tK (λj hj=>by rw [h j hj];rfl)]
theorem Eo(ls:List LayD)(s:ByteArray):∀n≤ls.length,(∀j<n,eqS (ls.getD j L0).name s=false)∨∃x<n,(∀j<x,eqS (ls.getD j L0).name s=false)∧eqS (ls.getD x L0).name s=true
 |0,_ => .inl λj hj=>absurd hj (Nat.not_lt_zero _)
 |n+1,h=>by
  rcases Eo ls s n (by omega) with g|⟨x,g1,g2,g3⟩
  ·cases e:eqS (ls.getD n L0).name s with
   |false=>exact .inl (dN g e)
   |true=>exact .inr ⟨n,by omega,g,e⟩
  ·exact .inr ⟨x,by omega,g2,g3⟩
def oP(ls:List LayD)(i:Nat):Option Int:=if AA (ls.getD i L0)=false then some 1 else if oh ls (ls.getD i L0).name<i then some 5 else none
def uU(ls:List LayD):Int:=if AA (ls.getD (ls.length-1) L0)=false then 1 else if oh ls (ls.getD (ls.length-1) L0).name<((ls.length-1:Nat):Int) then 5 else 0
theorem getD_take'{α:Type}{l:List α}{d:α}{i n:Nat}(h:i<n):(l.take n).getD i d=l.getD i d:=by
 simp [List.getD_eq_getElem?_getD,h,List.getElem?_take]
theorem VA{ls:List LayD}{i:Nat}(h:i<ls.length):oh (ls.take (i+1)) (ls.getD i L0).name=oh ls (ls.getD i L0).name:=by
 have hl:(ls.take (i+1)).length=i+1:=by simp;omega
 have hself:eqS (ls.getD i L0).name (ls.getD i L0).name=true:=by unfold eqS;simp
 rcases Eo ls (ls.getD i L0).name (i+1) (by omega) with g|⟨x,g1,g2,g3⟩
 ·have:=g i (by omega);rw [hself] at this;cases this
 ·rw [zI (x:=x) (by omega) g2 g3];exact zI (by omega) (λj hj=>by rw [getD_take' (by omega)];exact g2 j hj) (by rw [getD_take' g1];exact g3)
theorem Lj{ls:List LayD}{i:Nat}(h:i<ls.length):uU (ls.take (i+1))=(oP ls i).getD 0:=by
 have hl:(ls.take (i+1)).length=i+1:=by simp;omega
 unfold uU oP;rw [hl,show i+1-1=i by omega,getD_take' (by omega),VA h];split
 ·rfl
 ·split<;>rfl
def nY(ls:List LayD)(es:List EntR)(i:Nat):Option Int:=if oh ls (es.getD i rU).layer<0 then some 4 else if kG (es.getD i rU)=false then some 1 else none
def jf(ls:List LayD)(es:List EntR):Int :=
 if 20<ls.length∨200<es.length then 3
 else match Lc ls.length (oP ls) with
  |some r=>r
  |none=>match Lc es.length (nY ls es) with
   |some r=>r
   |none=>0
theorem Oo{ls:List LayD}{es:List EntR}(h:20<ls.length∨200<es.length):jf ls es=3:=by unfold jf;rw [if_pos h]
theorem Fe{ls:List LayD}{es:List EntR}{x:Nat}{r:Int}(h:¬(20<ls.length∨200<es.length))(hx:x<ls.length)(h1:∀j<x,oP ls j=none)(h2:oP ls x=some r):jf ls es=r:=by
 unfold jf;rw [if_neg h,wz hx h1 h2]
theorem Fv{ls:List LayD}{es:List EntR}{x:Nat}{r:Int}(h:¬(20<ls.length∨200<es.length))(h0:∀j<ls.length,oP ls j=none)(hx:x<es.length)(h1:∀j<x,nY ls es j=none)(h2:nY ls es x=some r):jf ls es=r:=by
 unfold jf;rw [if_neg h,tK h0];simp only;rw [wz hx h1 h2]
theorem KQ{ls:List LayD}{es:List EntR}(h:¬(20<ls.length∨200<es.length))(h0:∀j<ls.length,oP ls j=none)(h1:∀j<es.length,nY ls es j=none):jf ls es=0:=by
 unfold jf;rw [if_neg h,tK h0];simp only;rw [tK h1]
def okV(e:Ent):Prop:=(e.kind=1∧e.pts.length=2∨e.kind=2∧e.pts.length=3∨e.kind=3∧e.pts.length=1∧∃q:Rat,0<q∧rz q≤12∧e.rad=nJ q)∧XY e
@[reducible] def fV(e:Ent):EntR:=⟨e.kind,e.layer,e.pts.map λp=>(nJ p.1,nJ p.2),e.rad⟩
theorem U3(e:Ent):dL (fV e)=bZ e:=by
 unfold dL fV bZ;simp only [List.map_map];rfl
theorem Y2{e:EntR}(hs:rE e)(h:kG e=true):∃x:Ent,e=fV x∧okV x:=by
 obtain ⟨kd,ly,pts,rd⟩:=e;obtain ⟨s1,s2,s3,s4⟩:=hs;unfold kG at h;simp only [Bool.and_eq_true,decide_eq_true_eq,List.all_eq_true] at h;obtain ⟨h1,h2,h3⟩:=h;simp only at s1 s2 s3 s4 h1 h2 h3
 have hp:∀p∈pts,p=(nJ (qR p.1),nJ (qR p.2)):=λp hp=>by
  obtain ⟨a1,a2⟩:=h2 p hp;unfold iq at a1 a2;rw [Bool.and_eq_true] at a1 a2;exact Prod.ext (xI a1.1) (xI a2.1)
 have he:(pts.map λp=>(qR p.1,qR p.2)).map (λp:P2=>(nJ p.1,nJ p.2))=pts:=by
  rw [List.map_map];exact (List.map_congr_left (λp hp'=>(hp p hp').symm)).trans (List.map_id pts)
 refine ⟨⟨kd,ly,pts.map λp=>(qR p.1,qR p.2),rd⟩, ?_, ?_, ?_, ?_, ?_⟩
 ·unfold fV;simp only;rw [he]
 ·simp only [List.length_map];rcases h1 with g|g|g
  ·exact .inl g
  ·exact .inr (.inl g)
  ·refine .inr (.inr ⟨g.1,g.2,qR rd, ?_⟩);rcases Bool.or_eq_true_iff.1 h3 with f|f
   ·rw [decide_eq_true_eq] at f;exact absurd g.1 f
   ·rw [Bool.and_eq_true,decide_eq_true_eq] at f;have f1:=f.1;unfold iq at f1;rw [Bool.and_eq_true] at f1;have e1:=xI f1.1;exact ⟨f.2,Ci (e1 ▸ s2),e1⟩
 ·intro p hp';obtain ⟨u,hu,rfl⟩:=List.mem_map.1 hp';have e1:=hp u hu;have e2:=s1 u hu;exact ⟨Ci (by have:=e2.1;rw [e1] at this;exact this),Ci (by have:=e2.2;rw [e1] at this;exact this)⟩
 ·show ly.size≤1000;omega
 ·simp only [List.length_map];omega
theorem KO{α:Type}{n:Nat}{f:Nat→Option α}(h:Lc n f=none):∀j<n,f j=none:=by
 unfold Lc at h;rw [List.findSome?_eq_none_iff] at h;exact λj hj=>h j (by simpa using hj)
theorem LJ{α:Type}{n:Nat}{f:Nat→Option α}{r:α}(h:Lc n f=some r):∃j<n,f j=some r:=by
 unfold Lc at h;obtain ⟨j,h1,h2⟩:=List.exists_of_findSome?_eq_some h;exact ⟨j,by simpa using h1,h2⟩
theorem Zy{ls:List LayD}{es:List EntR}(h:jf ls es=0):ls.length≤20∧es.length≤200∧(∀j<ls.length,oP ls j=none)∧∀j<es.length,nY ls es j=none:=by
 unfold jf at h;split at h
 ·cases h
 ·rename_i g;split at h
  ·rename_i r e;obtain ⟨j,_,h2⟩:=LJ e;subst h;unfold oP at h2;split at h2
   ·cases h2
   ·split at h2<;>cases h2
  ·rename_i e;split at h
   ·rename_i r e';obtain ⟨j,_,h2⟩:=LJ e';subst h;unfold nY at h2;split at h2
    ·cases h2
    ·split at h2<;>cases h2
   ·rename_i e';exact ⟨by omega,by omega,KO e,KO e'⟩
theorem Rz{ls:List LayD}{es:List EntR}(hs:∀e∈es,rE e)(h:jf ls es=0):∃xs:List Ent,es=xs.map fV∧∀x∈xs,okV x:=by
 have h4:=(Zy h).2.2.2
 have key:∀e∈es,∃x:Ent,e=fV x∧okV x:=λe he=>by
  obtain ⟨j,hj,rfl⟩:=List.getElem_of_mem he;refine Y2 (hs _ he) ?_;have h5:=h4 j hj;unfold nY at h5;have e1:es.getD j rU=es[j]:=by simp [List.getD_eq_getElem?_getD,hj]
  rw [e1] at h5;split at h5
  ·cases h5
  ·split at h5
   ·cases h5
   ·rename_i g;simpa using g
 clear h h4 hs;induction es with
 |nil=>exact ⟨[],rfl,λx hx=>by simp at hx⟩
 |cons e r ih =>
  obtain ⟨x,h1,h2⟩:=key e (by simp);obtain ⟨xs,h3,h4⟩:=ih (λe he=>key e (by simp [he]));refine ⟨x :: xs,by rw [List.map_cons,← h1,← h3],λy hy=>?_⟩;rcases List.mem_cons.1 hy with rfl|hy
  ·exact h2
  ·exact h4 y hy
theorem AX{sq:Rat}{es:List Ent}{e:Ent}(h:e∈(dA sq 0 [] es).es):∀v∈aP e,v∈aZ (dA sq 0 [] es).sp e.layer:=by
 have hj:=sU sq 0 [] es;obtain ⟨j,hj1,rfl⟩:=List.getElem_of_mem h;have hl:=hj.len;obtain ⟨ws,h1,h2,h3⟩:=hj.ent j (es[j]'(by omega)) _ (List.getElem?_eq_getElem _) (List.getElem?_eq_getElem hj1);rw [h2];have h4:=qJ h1;rw [h4.1,h4.2.1];exact h3
theorem zip_fst{l:List Ent}{x:Ent × Nat}(h:x∈l.zipIdx):x.1∈l:=by
 have:=List.mem_map_of_mem (f:=(·.1)) h;simpa using this
theorem JC{l:List (Ent × Nat)}{x:Ent × Nat}(h:x∈Af l):x∈l:=by
 unfold Af at h;obtain ⟨y,h1,rfl⟩:=List.mem_map.1 h;have h2:=(List.mem_filter.1 h1).1;exact (List.of_mem_zip h2).1
theorem P9{l:List (Ent × Nat)}:∀c∈Ec l,c.kind=4:=by
 intro c hc;unfold Ec at hc;obtain ⟨i,_,h⟩:=List.mem_flatMap.1 hc;unfold opn at h;split at h
 ·cases h
 ·split at h
  ·rcases List.mem_append.1 h with h|h<;>(unfold xM at h;split at h<;>simp at h;subst h;rfl)
  ·cases h
theorem JK(sq:Rat)(es:List Ent):∀e∈(aT sq es).es,e∈(dA sq 0 [] es).es∧jU e=0:=by
 intro e he;unfold aT at he;simp only at he;obtain ⟨x,hx,rfl⟩:=List.mem_map.1 he;have h1:=JC hx;unfold sG at h1;obtain ⟨h2,h3⟩:=List.mem_filter.1 h1;exact ⟨zip_fst h2,by simpa using h3⟩
theorem Qq{sq:Rat}{es:List Ent}{a b:Ent}(ha:a∈(aT sq es).es)(hb:b∈(aT sq es).es)(hl:eqS a.layer b.layer=true){u v:P2}(hu:u∈aP a)(hv:v∈aP b)(hf:iH u v≤sq):u=v:=by
 have hR:ApS sq (dA sq 0 [] es).sp:=Hy (λs=>by simp [aZ]);have h1:=AX (JK sq es a ha).1 u hu;have h2:=AX (JK sq es b hb).1 v hv;have:aZ (dA sq 0 [] es).sp a.layer=aZ (dA sq 0 [] es).sp b.layer:=by unfold eqS at hl;unfold aZ;rw [eq_of_beq hl]
 exact hR.eq h1 (this ▸ h2) hf
theorem YI{sq:Rat}{es:List Ent}{q:P2→Prop}(hq:∀e∈es,∀p∈e.pts,q p){e':Ent}(h:e'∈(aT sq es).es):∃e∈es,e'.layer=e.layer∧e'.kind=e.kind∧e'.pts.length=e.pts.length∧e'.rad=e.rad∧∀p∈e'.pts,q p:=by
 have h1:=(JK sq es e' h).1;have hj:=sU sq 0 [] es;have h2:=(Ie (sq:=sq) hq es.length (Nat.le_refl _)).2.1;rw [Bl] at h2;obtain ⟨j,hj1,hj2⟩:=List.getElem_of_mem h1;have hl:=hj.len;obtain ⟨ws,g1,g2,g3⟩:=hj.ent j (es[j]'(by omega)) e' (List.getElem?_eq_getElem _) (by rw [List.getElem?_eq_getElem hj1,hj2]);obtain ⟨m1,m2,m3,m4,m5⟩:=qJ g1;refine ⟨es[j]'(by omega),List.getElem_mem _, ?_, ?_, ?_, ?_,h2 e' h1⟩<;>rw [g2]<;>assumption
end Go.Sw
namespace Go.Sw
open Go Go.Lib
@[reducible] def p10(n:Nat):Int:=((10 ^ n:Nat):Int)
theorem Aj(n:Nat):p10 n*10=p10 (n+1):=by unfold p10;rw [Nat.pow_succ];omega
theorem Ah{n:Nat}(h:n≤31):sz (p10 n)≤4:=by
 show (lim (p10 n).natAbs).length≤4;refine iZ ?_;have h1:10 ^ n≤10 ^ 31:=Nat.pow_le_pow_right (by decide) h;show (p10 n).natAbs<_;unfold p10;rw [Int.natAbs_natCast];have h2:(10:Nat) ^ 31<1000000000 ^ 4:=by decide +kernel
 omega
theorem Gq{n:Nat}(h:n≤31):rz ((p10 n:Int):Rat)≤8:=by
 have h1:=jH (p10 n);have h2:=Ah h;omega
theorem YM(n:Nat):((p10 n:Int):Rat)*((10:Int):Rat)=((p10 (n+1):Int):Rat):=by
 rw [← Rat.intCast_mul,Aj]
theorem den_mul(a:Rat)(k:Nat):(a*(((k:Nat):Int):Rat)).den=1↔k % a.den=0:=by
 have h0:=jW a;have hne:=kF a;constructor
 ·intro h;have h1:=VW (a*(((k:Nat):Int):Rat));rw [h] at h1
  have h2:(((a*(((k:Nat):Int):Rat)).num:Int):Rat)=a*(((k:Nat):Int):Rat):=by
   generalize (((a*(((k:Nat):Int):Rat)).num:Int):Rat)=m at h1 ⊢;generalize a*(((k:Nat):Int):Rat)=r at h1 ⊢;have:(((1:Nat):Int):Rat)=1:=rfl;rw [this] at h1
   grind
  generalize (a*(((k:Nat):Int):Rat)).num=m at h2
  have h3:((m*(a.den:Int):Int):Rat)=((a.num*(k:Int):Int):Rat):=by
   rw [Rat.intCast_mul,Rat.intCast_mul,h2,h0];generalize (((k:Nat):Int):Rat)=K;generalize (((a.den:Nat):Int):Rat)=D
   grind
  have h4:=Rat.intCast_inj.1 h3
  have h5:a.den ∣ a.num.natAbs*k:=by
   have:=congrArg Int.natAbs h4;rw [Int.natAbs_mul,Int.natAbs_mul,Int.natAbs_natCast,Int.natAbs_natCast] at this;exact ⟨m.natAbs,by rw [← this,Nat.mul_comm]⟩
  have h6:a.den ∣ k:=(Nat.Coprime.symm a.reduced).dvd_of_dvd_mul_left h5;exact Nat.mod_eq_zero_of_dvd h6
 ·intro h;obtain ⟨c,hc⟩:=Nat.dvd_of_mod_eq_zero h
  have:a*(((k:Nat):Int):Rat)=((a.num*(c:Int):Int):Rat):=by
   rw [Rat.intCast_mul,h0,hc,Int.natCast_mul,Rat.intCast_mul];generalize (((c:Nat):Int):Rat)=K;generalize (((a.den:Nat):Int):Rat)=D
   grind
  rw [this];exact Rat.den_intCast _
@[reducible] def ZF(a:Rat)(n:Nat):Rat:=a*(((p10 n:Int):Rat) / ((1:Int):Rat))
theorem Zi(a:Rat)(n:Nat):ZF a n=a*((p10 n:Int):Rat):=by
 unfold ZF;have:((1:Int):Rat)=1:=rfl;rw [this];generalize ((p10 n:Int):Rat)=K
 grind
def o9(k:Nat):ByteArray:=⟨(List.replicate k (48:UInt8)).toArray⟩
theorem mD(k:Nat):(o9 k).size=k:=by
 show (List.replicate k (48:UInt8)).toArray.size=k;simp
theorem OW(k:Nat):(⟨#[48]⟩:ByteArray)++o9 k=o9 (k+1):=by
 unfold o9;rw [ByteArray.ext_iff,ByteArray.data_append];simp [List.replicate_succ]
def oN(n:Int):ByteArray:=if n<0 then (lD n).extract 1 (lD n).size else lD n
def GN(n:Int):ByteArray:=if n<0 then ⟨#[45]⟩ else ⟨#[]⟩
def zk(n:Int)(k:Nat):ByteArray:=o9 (k+1-(oN n).size)++oN n
def Qu(n:Int)(k:Nat):ByteArray:=if k=0 then GN n++oN n else GN n++(zk n k).extract 0 ((zk n k).size-k)++⟨#[46]⟩++(zk n k).extract ((zk n k).size-k) (zk n k).size
def exS(a:Rat):ByteArray:=match Wh a with
 |some n=>Qu (ZF a n).num n
 |none=>⟨#[]⟩
theorem UY{a:Rat}{x:Nat}(hx:x≤30)(h:∀j<x,¬10 ^ j % a.den=0)(h1:10 ^ x % a.den=0):Wh a=some x:=by
 unfold Wh;rw [List.find?_range_eq_some];refine ⟨by simpa using h1,by simp;omega,λj hj=>by simpa using h j hj⟩
theorem Za{a:Rat}(h:∀j<31,¬10 ^ j % a.den=0):Wh a=none:=by
 unfold Wh;rw [List.find?_range_eq_none];intro j hj;simpa using h j hj
theorem Eu(n:Int):1≤(lD n).size:=by
 rw [xR];have:=nDigits_pos n.natAbs;split<;>omega
theorem TN{n:Nat}(h:n≤31):rz (((p10 n:Int):Rat) / ((1:Int):Rat))≤8:=by
 have e:((p10 n:Int):Rat) / ((1:Int):Rat)=((p10 n:Int):Rat):=by
  have:((1:Int):Rat)=1:=rfl;rw [this];generalize ((p10 n:Int):Rat)=K
  grind
 rw [e];exact Gq h
theorem Fh{n:Int}(h:sz n≤50):(oN n).size≤460:=by
 have:=WY h (by decide);unfold oN;split
 ·rw [ByteArray.size_extract];omega
 ·omega
theorem LZ{n:Int}{k:Nat}(h:sz n≤50)(hk:k≤30):(zk n k).size≤500∧k+1≤(zk n k).size:=by
 have:=Fh h;unfold zk;rw [ByteArray.size_append,mD];omega
theorem U4{n:Int}{k:Nat}(h:sz n≤50)(hk:k≤30):(Qu n k).size≤1000:=by
 have h1:=LZ h hk;have h2:=Fh h;have h3:(GN n).size≤1:=by unfold GN;split<;>decide
 have h4:(⟨#[46]⟩:ByteArray).size=1:=rfl;unfold Qu;split
 ·rw [ByteArray.size_append];omega
 ·rw [ByteArray.size_append,ByteArray.size_append,ByteArray.size_append,ByteArray.size_extract,ByteArray.size_extract,h4];omega
theorem adN{n:Int}{k:Nat}(h:(oN n).size≤k):o9 ((k:Int)+1-((oN n).size:Int)).toNat++oN n=zk n k:=by
 have:((k:Int)+1-((oN n).size:Int)).toNat=k+1-(oN n).size:=by omega
 rw [this];rfl
theorem ZU{n:Int}{k:Nat}(h:¬(oN n).size≤k):zk n k=oN n:=by
 unfold zk;rw [show k+1-(oN n).size=0 by omega,ByteArray.ext_iff,ByteArray.data_append];simp [o9]
theorem Y9{n:Int}{k:Nat}(h:k=0):Qu n k=GN n++oN n:=by unfold Qu;rw [if_pos h]
theorem Sr{n:Int}{k:Nat}(h:¬k=0):Qu n k=GN n++(zk n k).extract 0 ((zk n k).size-k)++⟨#[46]⟩++(zk n k).extract ((zk n k).size-k) (zk n k).size:=by unfold Qu;rw [if_neg h]
theorem Ku{a:Rat}{x:Nat}(h:rz a≤20)(hx:x≤30):sz (ZF a x).num≤50:=by
 have z1:=iM (ZF a x);have z2:=iW a (((p10 x:Int):Rat) / ((1:Int):Rat));have z3:=TN (n:=x) (by omega);unfold ZF at *;omega
theorem Zh{n:Int}(h:n<0):(lD n).extract (Int.toNat 1) (lD n).size=oN n:=by unfold oN;rw [if_pos h];rfl
theorem Zx{n:Int}(h:¬n<0):lD n=oN n:=by unfold oN;rw [if_neg h]
end Go.Sw
namespace Go.Sw
open Go
@[reducible] def pE(u v:P2):Bool:=decide (u.1=v.1) && decide (u.2=v.2)
theorem qO{u v:P2}:pE u v=decide (u=v):=Uo
theorem Xy{p q:Rat}:nJ p=nJ q↔p=q:=⟨λh=>by have:=congrArg qR h;rwa [Nr,Nr] at this,λh=>h ▸ rfl⟩
theorem Ti{l1 l2:ByteArray}{a b c d:P2}{r1 r2:Rq}:iP ⟨1,l1,[a,b],r1⟩ ⟨1,l2,[c,d],r2⟩=((l1.toList == l2.toList) && ((pE a c && pE b d) || (pE a d && pE b c))):=by
 rw [qO,qO,qO,qO];unfold iP eqS Gv;simp [Bool.decide_or,Bool.decide_and]
theorem Ud{l1 l2:ByteArray}{a m b c n d:P2}{r1 r2:Rq}:iP ⟨2,l1,[a,m,b],r1⟩ ⟨2,l2,[c,n,d],r2⟩=((l1.toList == l2.toList) && (((pE a c && pE b d) || (pE a d && pE b c)) && (if (decide (qB a m b=0) || decide (qB c n d=0))=true then decide (qB a m b=0) && (decide (qB c n d=0) && pE m n) else Wj c n d m && Wj a m b n))):=by
 rw [qO,qO,qO,qO,qO];unfold iP eqS Gv;simp [Bool.decide_or,Bool.decide_and,aaZ,Bool.and_assoc]
theorem UW{l1 l2:ByteArray}{a c:P2}{q1 q2:Rat}:iP ⟨3,l1,[a],nJ q1⟩ ⟨3,l2,[c],nJ q2⟩=((l1.toList == l2.toList) && (pE a c && decide (q1=q2))):=by
 rw [qO];have:decide (nJ q1=nJ q2)=decide (q1=q2):=decide_eq_decide.2 Xy;rw [← this];show ((l1.toList == l2.toList) && decide ((3:Int)=3) && (decide (a=c) && decide (nJ q1=nJ q2)))=_;rw [decide_eq_true (show (3:Int)=3 from rfl),Bool.and_true]
theorem tY{e f:Ent}(h:¬e.kind=f.kind):iP e f=false:=by
 unfold iP;simp [h]
theorem yg{e:Ent}(h:okV e):(∃l a b r,e=⟨1,l,[a,b],r⟩∧dn a∧dn b∧l.size≤1000)∨(∃l a m b r,e=⟨2,l,[a,m,b],r⟩∧dn a∧dn m∧dn b∧l.size≤1000)∨(∃l a q,e=⟨3,l,[a],nJ q⟩∧dn a∧0<q∧rz q≤12∧l.size≤1000):=by
 obtain ⟨kd,ly,pts,rd⟩:=e;obtain ⟨h1,h2,h3,h4⟩:=h;simp only at h1 h2 h3 h4;rcases h1 with ⟨rfl,g⟩|⟨rfl,g⟩|⟨rfl,g,q,q1,q2,rfl⟩
 ·match pts,g,h2 with
  |[a,b],_,h2=>exact .inl ⟨ly,a,b,rd,rfl,h2 a (by simp),h2 b (by simp),h3⟩
 ·match pts,g,h2 with
  |[a,m,b],_,h2=>exact .inr (.inl ⟨ly,a,m,b,rd,rfl,h2 a (by simp),h2 m (by simp),h2 b (by simp),h3⟩)
 ·match pts,g,h2 with
  |[a],_,h2=>exact .inr (.inr ⟨ly,a,q,rfl,h2 a (by simp),q1,q2,h3⟩)
theorem PN{e:Ent}{l:List P2}(h:okV e)(hl:l.length=(aP e).length)(hp:∀p∈l,dn p):okV (gY e l):=by
 obtain ⟨m1,m2,m3,m4,m5⟩:=qJ hl;obtain ⟨h1,h2,h3,h4⟩:=h;refine ⟨?_,Au h2 hp,by rw [m2];exact h3,by rw [m4];exact h4⟩;rw [m3,m4,m5];exact h1
theorem TP{sq:Rat}{es:List Ent}(h:∀e∈es,okV e):∀e∈(dA sq 0 [] es).es,okV e:=by
 intro e he;have hj:=sU sq 0 [] es;have h2:=(Ie (q:=dn) (sq:=sq) (λe he=>(h e he).2.1) es.length (Nat.le_refl _)).1;rw [Bl] at h2;obtain ⟨j,hj1,rfl⟩:=List.getElem_of_mem he;have hl:=hj.len;obtain ⟨ws,g1,g2,g3⟩:=hj.ent j (es[j]'(by omega)) _ (List.getElem?_eq_getElem _) (List.getElem?_eq_getElem hj1);rw [g2];refine PN (h _ (List.getElem_mem _)) g1 λp hp=>?_
 obtain ⟨q,q1,rfl⟩:=sV (g3 p hp);exact h2 q q1
theorem EI{l:List (Ent × Nat)}(h:∀x∈l,okV x.1){x:Nat}(hx:x<l.length):okV (l.getD x N0).1:=by
 have:l.getD x N0=l[x]:=by simp [List.getD_eq_getElem?_getD,hx]
 rw [this];exact h _ (List.getElem_mem hx)
theorem Gs{l:List (Ent × Nat)}{x:Nat}(h:x<l.length):l.take (x+1)=l.take x++[l.getD x N0]:=by
 rw [List.take_succ,List.getElem?_eq_getElem h];simp [List.getD_eq_getElem?_getD,h]
def QK(l:List (Ent × Nat))(x:Nat):List (Ent × Nat):=sG (l.take x)
def QL(l:List (Ent × Nat))(x:Nat):List Chn:=qP (l.take x)
theorem MO(l:List (Ent × Nat)):QK l l.length=sG l:=by unfold QK;rw [List.take_length]
theorem OM(l:List (Ent × Nat)):QL l l.length=qP l:=by unfold QL;rw [List.take_length]
theorem Zl{l:List (Ent × Nat)}{x:Nat}(h:x<l.length)(hf:jU (l.getD x N0).1=0):QK l (x+1)=QK l x++[l.getD x N0]∧QL l (x+1)=QL l x:=by
 unfold QK QL sG qP;rw [Gs h,List.filter_append,List.filter_append];simp only [List.filter_cons,List.filter_nil,hf];simp
theorem Vp{l:List (Ent × Nat)}{x k:Nat}(h:x<l.length)(hf:jU (l.getD x N0).1=k+1):QK l (x+1)=QK l x∧QL l (x+1)=QL l x++[⟨k+1,(l.getD x N0).2,0,none,none⟩]:=by
 unfold QK QL sG qP;rw [Gs h,List.filter_append,List.filter_append];generalize l.getD x N0=y at *;simp only [List.filter_cons,List.filter_nil,hf];simp [hf]
theorem Fj(l:List (Ent × Nat))(x:Nat):(QK l x).length≤l.length∧(QL l x).length≤l.length:=by
 unfold QK QL sG qP;have h1:=List.length_filter_le (λx:Ent × Nat=>jU x.1 == 0) (l.take x);have h2:=List.length_filter_le (λx:Ent × Nat=>!(jU x.1 == 0)) (l.take x);rw [List.length_take] at h1 h2;rw [List.length_map];omega
theorem WC{e:Ent}{a b:P2}(hE:aP e=[a,b])(h:pE a b=true):jU e=2:=by
 rw [qO,decide_eq_true_eq] at h;unfold jU;rw [hE];simp [h]
theorem OQ{e:Ent}{a b:P2}(hE:aP e=[a,b])(h:pE a b=false):jU e=if e.kind=2∧CU e=true then 5 else 0:=by
 rw [qO,decide_eq_false_iff_not] at h;unfold jU;rw [hE];simp [h]
theorem L9{e:Ent}(hE:aP e=[]):jU e=if e.kind=2∧CU e=true then 5 else 0:=by
 unfold jU;rw [hE]
def JJ(l:List (Ent × Nat))(x:Nat):List (Ent × Nat):=(((l.zip (fK (l.map (·.1)))).take x).filter λp=>!p.2).map (·.1)
def QJ(l:List (Ent × Nat))(x:Nat):List Chn:=(((l.zip (fK (l.map (·.1)))).take x).filter λp=>p.2).map λx=>⟨3,x.1.2,0,none,none⟩
theorem wF(l:List (Ent × Nat)):(l.zip (fK (l.map (·.1)))).length=l.length:=by rw [List.length_zip,jR,List.length_map,Nat.min_self]
theorem Gt(l:List (Ent × Nat)):JJ l l.length=Af l:=by
 unfold JJ Af;rw [List.take_of_length_le (by rw [wF];exact Nat.le_refl _)]
theorem Xg(l:List (Ent × Nat)):QJ l l.length=W9 l:=by
 unfold QJ W9;rw [List.take_of_length_le (by rw [wF];exact Nat.le_refl _)]
theorem Dy{l:List (Ent × Nat)}{x:Nat}(h:x<l.length):(l.zip (fK (l.map (·.1)))).take (x+1)=(l.zip (fK (l.map (·.1)))).take x++[(l.getD x N0,(fK (l.map (·.1))).getD x false)]:=by
 have h1:x<(l.zip (fK (l.map (·.1)))).length:=by rw [wF];exact h
 have h2:x<(fK (l.map (·.1))).length:=by rw [jR,List.length_map];exact h
 rw [List.take_succ,List.getElem?_eq_getElem h1,List.getElem_zip];simp [List.getD_eq_getElem?_getD,h,h2]
theorem adB{l:List (Ent × Nat)}{x:Nat}(h:x<l.length)(hb:(fK (l.map (·.1))).getD x false=true):JJ l (x+1)=JJ l x∧QJ l (x+1)=QJ l x++[⟨3,(l.getD x N0).2,0,none,none⟩]:=by
 unfold JJ QJ;rw [Dy h,hb,List.filter_append,List.filter_append];simp
theorem aer{l:List (Ent × Nat)}{x:Nat}(h:x<l.length)(hb:(fK (l.map (·.1))).getD x false=false):JJ l (x+1)=JJ l x++[l.getD x N0]∧QJ l (x+1)=QJ l x:=by
 unfold JJ QJ;rw [Dy h,hb,List.filter_append,List.filter_append];simp
theorem EK(l:List (Ent × Nat))(x:Nat):(JJ l x).length≤l.length∧(QJ l x).length≤l.length:=by
 unfold JJ QJ;have h1:=List.length_filter_le (λp:(Ent × Nat) × Bool=>!p.2) ((l.zip (fK (l.map (·.1)))).take x);have h2:=List.length_filter_le (λp:(Ent × Nat) × Bool=>p.2) ((l.zip (fK (l.map (·.1)))).take x);rw [List.length_take,wF] at h1 h2;rw [List.length_map,List.length_map];omega
theorem left_ok{q:Ent→Prop}{l:List (Ent × Nat)}(h:∀x∈l,q x.1):∀x∈Af l,q x.1:=λx hx=>h x (JC hx)
theorem YC{q:Ent→Prop}{l:List (Ent × Nat)}(h:∀x∈l,q x.1):∀x∈sG l,q x.1:=λx hx=>h x (List.mem_filter.1 hx).1
theorem afx{l:List (Ent × Nat)}{x:Nat}(h:x<l.length):(l.take (x+1)).map (·.1)=(l.take x).map (·.1)++[(l.getD x N0).1]:=by rw [Gs h,List.map_append];rfl
theorem rpL{l:List (Ent × Nat)}{x:Nat}(h:x≤l.length):(yS (l.map (·.1)) x).length=l.length:=by
 rw [XL (by rw [List.length_map];exact h),List.length_map]
theorem MX{l:List (Ent × Nat)}{x:Nat}(h:x<l.length):(l.map (·.1)).getD x E0=(l.getD x N0).1:=by
 simp [List.getD_eq_getElem?_getD,h]
theorem abS{l:List (Ent × Nat)}{x k:Nat}(hx:x<l.length)(hk:k<x)(h0:uO (l.map (·.1)) x k=false)(h:(!(yS (l.map (·.1)) x).getD k false)=false∨iP (l.getD x N0).1 (l.getD k N0).1=false):uO (l.map (·.1)) x (k+1)=false:=by
 rw [EC (by rw [List.length_map];exact hx) hk,h0,MX hx,MX (by omega)];rcases h with h|h<;>rw [h]<;>simp
theorem aci{l:List (Ent × Nat)}{x k:Nat}(hx:x<l.length)(hk:k<x)(h1:(!(yS (l.map (·.1)) x).getD k false)=true)(h2:iP (l.getD x N0).1 (l.getD k N0).1=true):yS (l.map (·.1)) (x+1)=(yS (l.map (·.1)) x).set x true:=by
 refine adf (by rw [List.length_map];exact hx) hk ?_;rw [EC (by rw [List.length_map];exact hx) hk,MX hx,MX (by omega),h1,h2];simp
theorem adI{l:List (Ent × Nat)}{x:Nat}(hx:x<l.length)(h:uO (l.map (·.1)) x x=false):yS (l.map (·.1)) (x+1)=yS (l.map (·.1)) x:=adE (by rw [List.length_map];exact hx) h
theorem Yn(l:List (Ent × Nat)):yS (l.map (·.1)) l.length=fK (l.map (·.1)):=by
 have:=YO (l.map (·.1))
 rwa [List.length_map] at this
def ru:Rq × Rq:=(⟨false,[],false,[]⟩,⟨false,[],false,[]⟩)
theorem nP{e:EntR}(h:¬(e.kind=1∧e.pts.length=2∨e.kind=2∧e.pts.length=3∨e.kind=3∧e.pts.length=1)):kG e=false:=by
 unfold kG;rw [decide_eq_false h,Bool.false_and]
theorem uo{e:EntR}{x:Nat}(hx:x<e.pts.length)(h:(iq (e.pts.getD x ru).1 && iq (e.pts.getD x ru).2)=false):kG e=false:=by
 have:(e.pts.all λp=>iq p.1 && iq p.2)=false:=by
  rw [List.all_eq_false];refine ⟨e.pts.getD x ru, ?_,by rw [h];decide⟩;have:e.pts.getD x ru=e.pts[x]:=by simp [List.getD_eq_getElem?_getD,hx]
  rw [this];exact List.getElem_mem hx
 unfold kG;rw [this];simp
theorem pW{e:EntR}(h:e.kind=1∧e.pts.length=2∨e.kind=2∧e.pts.length=3∨e.kind=3∧e.pts.length=1)(h1:∀j<e.pts.length,(iq (e.pts.getD j ru).1 && iq (e.pts.getD j ru).2)=true):kG e=(decide (¬e.kind=3) || (iq e.rad && decide (0<qR e.rad))):=by
 have:(e.pts.all λp=>iq p.1 && iq p.2)=true:=by
  rw [List.all_eq_true];intro p hp;obtain ⟨j,hj,rfl⟩:=List.getElem_of_mem hp;have h2:=h1 j hj;have e1:e.pts.getD j ru=e.pts[j]:=by simp [List.getD_eq_getElem?_getD,hj]
  rwa [e1] at h2
 unfold kG;rw [this,decide_eq_true h];simp
theorem Fz{r:Rq}(h:iq r=true):vR r=true:=by
 unfold iq at h;rw [Bool.and_eq_true] at h;exact h.1
theorem lT{e:EntR}(h:rE e){x:Nat}(hx:x<e.pts.length):CS (e.pts.getD x ru).1∧CS (e.pts.getD x ru).2:=by
 have:e.pts.getD x ru=e.pts[x]:=by simp [List.getD_eq_getElem?_getD,hx]
 rw [this];exact h.1 _ (List.getElem_mem hx)
def ZC(ls:List LayD)(e:EntR):Int:=if oh ls e.layer<0 then 4 else if kG e=false then 1 else 0
theorem RV{ls:List LayD}{es:List EntR}{x:Nat}:(ZC ls (es.getD x rU)=0→nY ls es x=none)∧(¬ZC ls (es.getD x rU)=0→nY ls es x=some (ZC ls (es.getD x rU))):=by
 unfold ZC nY;split
 ·exact ⟨λh=>(by cases h),λ_=>rfl⟩
 ·split
  ·exact ⟨λh=>(by cases h),λ_=>rfl⟩
  ·exact ⟨λ_=>rfl,λh=>absurd rfl h⟩
theorem U7{ls:List LayD}{x:Nat}(hx:x<ls.length):(uU (ls.take (x+1))=0→oP ls x=none)∧(¬uU (ls.take (x+1))=0→oP ls x=some (uU (ls.take (x+1)))):=by
 rw [Lj hx];unfold oP;split
 ·exact ⟨λh=>(by cases h),λ_=>rfl⟩
 ·split
  ·exact ⟨λh=>(by cases h),λ_=>rfl⟩
  ·exact ⟨λ_=>rfl,λh=>absurd rfl h⟩
theorem ZA{es:List EntR}(h:∀e∈es,rE e){x:Nat}(hx:x<es.length):rE (es.getD x rU):=by
 have:es.getD x rU=es[x]:=by simp [List.getD_eq_getElem?_getD,hx]
 rw [this];exact h _ (List.getElem_mem hx)
theorem ZM{ls:List LayD}{n:Nat}(h:∀l∈ls,l.name.size≤n)(x:Nat):(ls.getD x L0).name.size≤n:=by
 by_cases hx:x<ls.length
 ·have:ls.getD x L0=ls[x]:=by simp [List.getD_eq_getElem?_getD,hx]
  rw [this];exact h _ (List.getElem_mem hx)
 ·have:ls.getD x L0=L0:=by simp [List.getD_eq_getElem?_getD,Nat.le_of_not_lt hx]
  rw [this];exact Nat.zero_le _
theorem FQ:rz D8≤8:=Nat.le_trans (ahd 1 1000 (by decide) ⟨by decide,by decide⟩ ⟨by decide,by decide⟩) (by decide)
theorem ZN{a:Rat}(h:rz a≤12):rz (a*D8)≤20:=by
 have h1:=iW a D8;have h2:=FQ;omega
theorem U2:rz ((10000000:Int):Rat)≤4:=Le _ (by decide) (by decide)
end Go.Sw
namespace Go.Proofs.YtmniihkenijjpaaGreatDoor
open Go Go.RowKit Go.Sw
set_option maxRecDepth 100000
set_option maxHeartbeats 8000000
instance ahy(m n:Int):DenI Tryz.prog 88 [.int .i64 m,.int .i64 n] ((-9223372036854775808≤m∧m≤9223372036854775807)∧-9223372036854775808≤n∧n≤9223372036854775807) (Q2 (m:Rat) (n:Rat)):=⟨λhp=>by
 refine aI Tryz.func88 rfl ?_
 all_goals (repeat' ((try (conv=>whnf));first
  |refine ak ?_ ?_
  |refine Ends.mk ?_))
 all_goals (try refine Pr.mk ?_)
 all_goals first
  |rfl
  |omega⟩
instance agb(a b c d:Rat):DenI Tryz.prog 27 [Q2 a b,Q2 c d] (rz a≤4000000∧rz b≤4000000∧rz c≤4000000∧rz d≤4000000) (.bool (decide (a=c) && decide (b=d))):=⟨λhp=>by
 have i_a:RzB a 4000000:=⟨hp.1⟩
 have i_b:RzB b 4000000:=⟨hp.2.1⟩
 have i_c:RzB c 4000000:=⟨hp.2.2.1⟩
 have i_d:RzB d 4000000:=⟨hp.2.2.2⟩
 all_goals refine aI Tryz.func27 rfl ?_
 all_goals (repeat' ((try (conv=>whnf));first
  |refine ak ?_ ?_
  |(with_reducible refine aJ ?_)
  |(with_reducible refine aK ?_)
  |(with_reducible refine au (λ_=>?_) (λ_=>?_))
  |refine Ends.mk ?_))
 all_goals (try refine Pr.mk ?_)
 all_goals first
  |(simp only [aaP,aby,mkA,mkB,mkC,ade,ptC, *,true_or,or_true,if_true,if_false,or_self,and_self,and_true,true_and,and_false,false_and,not_true,not_false_iff,Bool.false_eq_true,decide_true,decide_false,Bool.or_true,Bool.true_or,Bool.or_false,Bool.false_or];rfl)
  |((repeat' apply And.intro)<;>first|assumption|exact uN (by omega)|exact vO (by omega)|exact Int.mul_ne_zero (aH _) (aH _))⟩
end Go.Proofs.YtmniihkenijjpaaGreatDoor
namespace Go.Proofs.YtmniihkenijjpaaGreatDoor
open Go Go.RowKit Go.Sw
set_option maxRecDepth 100000
set_option maxHeartbeats 8000000
set_option synthInstance.maxSize 4000
set_option synthInstance.maxHeartbeats 400000
end Go.Proofs.YtmniihkenijjpaaGreatDoor
