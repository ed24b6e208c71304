/-
  Rules of the abstract run, plain laws, and what functions answer, for the law TopRepaired.
  Conditions: none.
-/
import Derived.Test.YtmniihkenijjpaaGreatDoorW12
set_option linter.all false
namespace Go.Sw
open Go Go.Lib
@[reducible] def p10(n:Nat):Int:=((10 ^ n:Nat):Int)
theorem yT(n:Nat):p10 n*10=p10 (n+1):=by unfold p10;rw[uK];omega
theorem sD{n:Nat}(h:n<=31):sz (p10 n)<=4:=by
 show(lim (p10 n).natAbs).length<=4;refine iP ?_;have h1:10^n<=10^31:=xM ψ h;show(p10 n).natAbs<_;unfold p10;rw[AP];have h2:(10:Nat)^31<1000000000^4:=by decide +kernel
 omega
theorem I9{n:Nat}(h:n<=31):rz ((p10 n:Int):Rat)<=8:=by
 have h1:=jU (p10 n);have h2:=sD h;omega
@[reducible] def Vq(a:Rat)(n:Nat):Rat:=a*(((p10 n:Int):Rat) / ((1:Int):Rat))
def EN(k:Nat):ByteArray:=⟨(List.replicate k (48:UInt8)).toArray⟩
theorem uy(k:Nat):(EN k).size=k:=by
 show(List.replicate k (48:UInt8)).toArray.size=k;simp
def sV(n:Int):ByteArray:=if n<0 then(lJ n).extract 1 (lJ n).size else lJ n
def Nj(n:Int):ByteArray:=if n<0 then⟨#[45]⟩else⟨#[]⟩
def xJ(n:Int)(k:Nat):ByteArray:=EN (k+1-(sV n).size)++sV n
def OZ(n:Int)(k:Nat):ByteArray:=if k=0 then Nj n++sV n else Nj n++(xJ n k).extract 0 ((xJ n k).size-k)++⟨#[46]⟩++(xJ n k).extract ((xJ n k).size-k) (xJ n k).size
def exS(a:Rat):ByteArray:=match Qg a with
 |some n=>OZ (Vq a n).num n
 |none=>⟨#[]⟩
theorem QD{a:Rat}{x:Nat}(hx:x<=30)(h:∀j<x,¬10^j%a.den=0)(h1:10^x%a.den=0):Qg a=some x:=by
 unfold Qg;rw[List.find?_range_eq_some];refine⟨by simpa using h1,κ,λj hj=>by simpa using h j hj⟩
theorem V3{a:Rat}(h:∀j<31,¬10^j%a.den=0):Qg a=none:=by
 unfold Qg;rw[List.find?_range_eq_none];intro j hj;simpa using h j hj
theorem Eu(n:Int):1<=(lJ n).size:=by
 rw[uh];have:=nDigits_pos n.natAbs;split<;>omega
theorem J9{n:Nat}(h:n<=31):rz (((p10 n:Int):Rat)/((1:Int):Rat))<=8:=by
 have e:((p10 n:Int):Rat)/((1:Int):Rat)=((p10 n:Int):Rat):=by
  have:((1:Int):Rat)=1:=rfl;rw[this];generalize((p10 n:Int):Rat)=K
  grind
 rw[e];exact I9 h
theorem zY{n:Int}(h:sz n<=50):(sV n).size<=460:=by
 have:=Nq h ψ;unfold sV;split
 .rw[ByteArray.size_extract];omega
 .omega
theorem Jg{n:Int}{k:Nat}(h:sz n<=50)(hk:k<=30):(xJ n k).size<=500/\k+1<=(xJ n k).size:=by
 have:=zY h;unfold xJ;rw[ByteArray.size_append,uy];omega
theorem Qd{n:Int}{k:Nat}(h:sz n<=50)(hk:k<=30):(OZ n k).size<=1000:=by
 have h1:=Jg h hk;have h2:=zY h;have h3:(Nj n).size<=1:=by unfold Nj;split<;>decide
 have h4:(⟨#[46]⟩:ByteArray).size=1:=rfl;unfold OZ;split
 .rw[ByteArray.size_append];omega
 .rw[ByteArray.size_append,ByteArray.size_append,ByteArray.size_append,ByteArray.size_extract,ByteArray.size_extract,h4];omega
theorem U7{n:Int}{k:Nat}(h:(sV n).size<=k):EN ((k:Int)+1-((sV n).size:Int)).toNat++sV n=xJ n k:=by
 have:((k:Int)+1-((sV n).size:Int)).toNat=k+1-(sV n).size:=ω
 rw[this];rfl
theorem VY{n:Int}{k:Nat}(h:¬(sV n).size<=k):xJ n k=sV n:=by
 unfold xJ;rw[show k+1-(sV n).size=0 by omega,ByteArray.ext_iff,ByteArray.data_append];simp[EN]
theorem Ur{n:Int}{k:Nat}(h:k=0):OZ n k=Nj n++sV n:=by unfold OZ;rw[if_pos h]
theorem O6{n:Int}{k:Nat}(h:¬k=0):OZ n k=Nj n++(xJ n k).extract 0 ((xJ n k).size-k)++⟨#[46]⟩++(xJ n k).extract ((xJ n k).size-k) (xJ n k).size:=by unfold OZ;rw[if_neg h]
theorem II{a:Rat}{x:Nat}(h:rz a<=20)(hx:x<=30):sz (Vq a x).num<=50:=by
 have z1:=jg (Vq a x);have z2:=jh a (((p10 x:Int):Rat)/((1:Int):Rat));have z3:=J9 (n:=x) ω;unfold Vq at *;omega
theorem UF{n:Int}(h:n<0):(lJ n).extract (Int.toNat 1) (lJ n).size=sV n:=by unfold sV;rw[if_pos h];rfl
theorem TT{n:Int}(h:¬n<0):lJ n=sV n:=by unfold sV;rw[if_neg h]
end Go.Sw
namespace Go.Sw
open Go
@[reducible] def pE(u v:P2):Bool:=decide (u.1=v.1) && decide (u.2=v.2)
theorem kC{u v:P2}:pE u v=decide (u=v):=F5
theorem Nr{p q:Rat}:kX p=kX q↔p=q:=⟨λh=>by have:=congrArg qR h;rwa [C9,C9]at this,λh=>h▸rfl⟩
theorem JM{l1 l2:ByteArray}{a b c d:P2}{r1 r2:Rq}:aZ ⟨1,l1,[a,b],r1⟩ ⟨1,l2,[c,d],r2⟩=((l1.toList == l2.toList)&&((pE a c&&pE b d) ||(pE a d&&pE b c))):=by
 rw[kC,kC,kC,kC];unfold aZ eqS mP;simp[Bool.decide_or,Bool.decide_and]
theorem H9{l1 l2:ByteArray}{a m b c n d:P2}{r1 r2:Rq}:aZ ⟨2,l1,[a,m,b],r1⟩ ⟨2,l2,[c,n,d],r2⟩=((l1.toList == l2.toList)&&(((pE a c&&pE b d) ||(pE a d&&pE b c))&&(if(decide (fJ a m b=0)||decide (fJ c n d=0))=true then decide (fJ a m b=0)&&(decide (fJ c n d=0)&&pE m n)else vg c n d m&&vg a m b n))):=by
 rw[kC,kC,kC,kC,kC];unfold aZ eqS mP;simp[Bool.decide_or,Bool.decide_and,Rh,Bool.and_assoc]
theorem Jk{l1 l2:ByteArray}{a c:P2}{q1 q2:Rat}:aZ ⟨3,l1,[a],kX q1⟩ ⟨3,l2,[c],kX q2⟩=((l1.toList == l2.toList)&&(pE a c&&decide (q1=q2))):=by
 rw[kC];have:decide (kX q1=kX q2)=decide (q1=q2):=decide_eq_decide.2 Nr;rw[<-this];show((l1.toList == l2.toList)&&decide ((3:Int)=3)&&(decide (a=c)&&decide (kX q1=kX q2)))=_;rw[decide_eq_true (show(3:Int)=3 from rfl),Bool.and_true]
theorem kV{e f:Ent}(h:¬e.kind=f.kind):aZ e f=false:=by
 unfold aZ;simp[h]
theorem oV{e:Ent}(h:okV e):(∃l a b r,e=⟨1,l,[a,b],r⟩/\aS a/\aS b/\l.size<=1000)\/(∃l a m b r,e=⟨2,l,[a,m,b],r⟩/\aS a/\aS m/\aS b/\l.size<=1000)\/(∃l a q,e=⟨3,l,[a],kX q⟩/\aS a/\0<q/\rz q<=12/\l.size<=1000):=by
 obtain⟨kd,ly,pts,rd⟩:=e;obtain⟨h1,h2,h3,h4⟩:=h;simp only at h1 h2 h3 h4;rcases h1 with⟨rfl,g⟩|⟨rfl,g⟩|⟨rfl,g,q,q1,q2,rfl⟩
 .match pts,g,h2 with
  |[a,b],_,h2=>exact .inl ⟨ly,a,b,rd,rfl,h2 a η,h2 b η,h3⟩
 .match pts,g,h2 with
  |[a,m,b],_,h2=>exact .inr (.inl ⟨ly,a,m,b,rd,rfl,h2 a η,h2 m η,h2 b η,h3⟩)
 .match pts,g,h2 with
  |[a],_,h2=>exact .inr (.inr ⟨ly,a,q,rfl,h2 a η,q1,q2,h3⟩)
theorem Ee{e:Ent}{l:List P2}(h:okV e)(hl:l.length=(aH e).length)(hp:∀p∈l,aS p):okV (dA e l):=by
 obtain⟨m1,m2,m3,m4,m5⟩:=jV hl;obtain⟨h1,h2,h3,h4⟩:=h;refine⟨?_,sU h2 hp,by rw[m2];exact h3,by rw[m4];exact h4⟩;rw[m3,m4,m5];exact h1
theorem Ql{sq:Rat}{es:List Ent}(h:∀e∈es,okV e):∀e∈(aQ sq 0 [] es).es,okV e:=by
 intro e he;have hj:=nH sq 0 [] es;have h2:=(yP (q:=aS) (sq:=sq) (λe he=>(h e he).2.1) es.length (gW _)).1;rw[rQ]at h2;obtain⟨j,hj1,rfl⟩:=xH he;have hl:=hj.len;obtain⟨ws,g1,g2,g3⟩:=hj.ent j (es[j]' ω) _ (eY _) (eY hj1);rw[g2];refine Ee (h _ (tq _)) g1 λp hp=>?_
 obtain⟨q,q1,rfl⟩:=kK (g3 p hp);exact h2 q q1
theorem wG{l:List (Ent×Nat)}(h:∀x∈l,okV x.1){x:Nat}(hx:x<l.length):okV (l.getD x N0).1:=by
 have:l.getD x N0=l[x]:=by simp[jH,hx]
 rw[this];exact h _ (tq hx)
theorem vZ{l:List (Ent×Nat)}{x:Nat}(h:x<l.length):l.take (x+1)=l.take x++[l.getD x N0]:=by
 rw[List.take_succ,eY h];simp[jH,h]
def FT(l:List (Ent×Nat))(x:Nat):List (Ent×Nat):=jE (l.take x)
def FQ(l:List (Ent×Nat))(x:Nat):List Chn:=jF (l.take x)
theorem Dn(l:List (Ent×Nat)):FT l l.length=jE l:=by unfold FT;rw[AQ]
theorem BR(l:List (Ent×Nat)):FQ l l.length=jF l:=by unfold FQ;rw[AQ]
theorem O8{l:List (Ent×Nat)}{x:Nat}(h:x<l.length)(hf:gu (l.getD x N0).1=0):FT l (x+1)=FT l x++[l.getD x N0]/\FQ l (x+1)=FQ l x:=by
 unfold FT FQ jE jF;rw[vZ h,KG,KG];simp only[List.filter_cons,List.filter_nil,hf];simp
theorem Jd{l:List (Ent×Nat)}{x k:Nat}(h:x<l.length)(hf:gu (l.getD x N0).1=k+1):FT l (x+1)=FT l x/\FQ l (x+1)=FQ l x++[⟨k+1,(l.getD x N0).2,0,none,none⟩]:=by
 unfold FT FQ jE jF;rw[vZ h,KG,KG];generalize l.getD x N0=y at *;simp only[List.filter_cons,List.filter_nil,hf];simp[hf]
theorem vF(l:List (Ent×Nat))(x:Nat):(FT l x).length<=l.length/\(FQ l x).length<=l.length:=by
 unfold FT FQ jE jF;have h1:=List.length_filter_le (λx:Ent×Nat=>gu x.1 == 0) (l.take x);have h2:=List.length_filter_le (λx:Ent×Nat=>!(gu x.1 == 0)) (l.take x);rw[qy]at h1 h2;rw[aN];omega
theorem Om{e:Ent}{a b:P2}(hE:aH e=[a,b])(h:pE a b=true):gu e=2:=by
 rw[kC,decide_eq_true_eq]at h;unfold gu;rw[hE];simp[h]
theorem Dj{e:Ent}{a b:P2}(hE:aH e=[a,b])(h:pE a b=false):gu e=if e.kind=2/\tZ e=true then 5 else 0:=by
 rw[kC,decide_eq_false_iff_not]at h;unfold gu;rw[hE];simp[h]
theorem CJ{e:Ent}(hE:aH e=[]):gu e=if e.kind=2/\tZ e=true then 5 else 0:=by
 unfold gu;rw[hE]
def zL(l:List (Ent×Nat))(x:Nat):List (Ent×Nat):=(((l.zip (bn (l.map (·.1)))).take x).filter λp=>!p.2).map (·.1)
def FV(l:List (Ent×Nat))(x:Nat):List Chn:=(((l.zip (bn (l.map (·.1)))).take x).filter λp=>p.2).map λx=>⟨3,x.1.2,0,none,none⟩
theorem nO(l:List (Ent×Nat)):(l.zip (bn (l.map (·.1)))).length=l.length:=by rw[List.length_zip,eX,aN,Nat.min_self]
theorem vU(l:List (Ent×Nat)):zL l l.length=kE l:=by
 unfold zL kE;rw[Kt (by rw[nO];exact gW _)]
theorem LC(l:List (Ent×Nat)):FV l l.length=Jr l:=by
 unfold FV Jr;rw[Kt (by rw[nO];exact gW _)]
theorem uF{l:List (Ent×Nat)}{x:Nat}(h:x<l.length):(l.zip (bn (l.map (·.1)))).take (x+1)=(l.zip (bn (l.map (·.1)))).take x++[(l.getD x N0,(bn (l.map (·.1))).getD x false)]:=by
 have h1:x<(l.zip (bn (l.map (·.1)))).length:=by rw[nO];exact h
 have h2:x<(bn (l.map (·.1))).length:=by rw[eX,aN];exact h
 rw[List.take_succ,eY h1,List.getElem_zip];simp[jH,h,h2]
theorem Ub{l:List (Ent×Nat)}{x:Nat}(h:x<l.length)(hb:(bn (l.map (·.1))).getD x false=true):zL l (x+1)=zL l x/\FV l (x+1)=FV l x++[⟨3,(l.getD x N0).2,0,none,none⟩]:=by
 unfold zL FV;rw[uF h,hb,KG,KG];simp
theorem Vp{l:List (Ent×Nat)}{x:Nat}(h:x<l.length)(hb:(bn (l.map (·.1))).getD x false=false):zL l (x+1)=zL l x++[l.getD x N0]/\FV l (x+1)=FV l x:=by
 unfold zL FV;rw[uF h,hb,KG,KG];simp
theorem wV(l:List (Ent×Nat))(x:Nat):(zL l x).length<=l.length/\(FV l x).length<=l.length:=by
 unfold zL FV;have h1:=List.length_filter_le (λp:(Ent×Nat)×Bool=>!p.2) ((l.zip (bn (l.map (·.1)))).take x);have h2:=List.length_filter_le (λp:(Ent×Nat)×Bool=>p.2) ((l.zip (bn (l.map (·.1)))).take x);rw[qy,nO]at h1 h2;rw[aN,aN];omega
theorem left_ok{q:Ent->Prop}{l:List (Ent×Nat)}(h:∀x∈l,q x.1):∀x∈kE l,q x.1:=λx hx=>h x (su hx)
theorem MW{q:Ent->Prop}{l:List (Ent×Nat)}(h:∀x∈l,q x.1):∀x∈jE l,q x.1:=λx hx=>h x (uP.1 hx).1
theorem Yc{l:List (Ent×Nat)}{x:Nat}(h:x<l.length):(l.take (x+1)).map (·.1)=(l.take x).map (·.1)++[(l.getD x N0).1]:=by rw[vZ h,dI];rfl
theorem rpL{l:List (Ent×Nat)}{x:Nat}(h:x<=l.length):(qg (l.map (·.1)) x).length=l.length:=by
 rw[Nu (by rw[aN];exact h),aN]
theorem DY{l:List (Ent×Nat)}{x:Nat}(h:x<l.length):(l.map (·.1)).getD x E0=(l.getD x N0).1:=by
 simp[jH,h]
theorem RZ{l:List (Ent×Nat)}{x k:Nat}(hx:x<l.length)(hk:k<x)(h0:lQ (l.map (·.1)) x k=false)(h:(!(qg (l.map (·.1)) x).getD k false)=false\/aZ (l.getD x N0).1 (l.getD k N0).1=false):lQ (l.map (·.1)) x (k+1)=false:=by
 rw[uS (by rw[aN];exact hx) hk,h0,DY hx,DY ω];rcases h with h|h<;>rw[h]<;>simp
theorem Sv{l:List (Ent×Nat)}{x k:Nat}(hx:x<l.length)(hk:k<x)(h1:(!(qg (l.map (·.1)) x).getD k false)=true)(h2:aZ (l.getD x N0).1 (l.getD k N0).1=true):qg (l.map (·.1)) (x+1)=(qg (l.map (·.1)) x).set x true:=by
 refine Uu (by rw[aN];exact hx) hk ?_;rw[uS (by rw[aN];exact hx) hk,DY hx,DY ω,h1,h2];simp
theorem UJ{l:List (Ent×Nat)}{x:Nat}(hx:x<l.length)(h:lQ (l.map (·.1)) x x=false):qg (l.map (·.1)) (x+1)=qg (l.map (·.1)) x:=Ut (by rw[aN];exact hx) h
theorem Nv(l:List (Ent×Nat)):qg (l.map (·.1)) l.length=bn (l.map (·.1)):=by
 have:=KO (l.map (·.1))
 rwa [aN]at this
def nM:Rq×Rq:=(⟨false,[],false,[]⟩,⟨false,[],false,[]⟩)
theorem qU{e:EntR}(h:¬(e.kind=1/\e.pts.length=2\/e.kind=2/\e.pts.length=3\/e.kind=3/\e.pts.length=1)):jl e=false:=by
 unfold jl;rw[decide_eq_false h,Bool.false_and]
theorem vK{e:EntR}{x:Nat}(hx:x<e.pts.length)(h:(fK (e.pts.getD x nM).1&&fK (e.pts.getD x nM).2)=false):jl e=false:=by
 have:(e.pts.all λp=>fK p.1&&fK p.2)=false:=by
  rw[List.all_eq_false];refine⟨e.pts.getD x nM, ?_,by rw[h];decide⟩;have:e.pts.getD x nM=e.pts[x]:=by simp[jH,hx]
  rw[this];exact tq hx
 unfold jl;rw[this];simp
theorem sQ{e:EntR}(h:e.kind=1/\e.pts.length=2\/e.kind=2/\e.pts.length=3\/e.kind=3/\e.pts.length=1)(h1:∀j<e.pts.length,(fK (e.pts.getD j nM).1&&fK (e.pts.getD j nM).2)=true):jl e=(decide (¬e.kind=3) ||(fK e.rad&&decide (0<qR e.rad))):=by
 have:(e.pts.all λp=>fK p.1&&fK p.2)=true:=by
  rw[gQ];intro p hp;obtain⟨j,hj,rfl⟩:=xH hp;have h2:=h1 j hj;have e1:e.pts.getD j nM=e.pts[j]:=by simp[jH,hj]
  rwa [e1]at h2
 unfold jl;rw[this,decide_eq_true h];simp
theorem BD{r:Rq}(h:fK r=true):vR r=true:=by
 unfold fK at h;rw[bG]at h;exact h.1
theorem oP{e:EntR}(h:qQ e){x:Nat}(hx:x<e.pts.length):zN (e.pts.getD x nM).1/\zN (e.pts.getD x nM).2:=by
 have:e.pts.getD x nM=e.pts[x]:=by simp[jH,hx]
 rw[this];exact h.1 _ (tq hx)
def OA(ls:List LayD)(e:EntR):Int:=if mG ls e.layer<0 then 4 else if jl e=false then 1 else 0
theorem GR{ls:List LayD}{es:List EntR}{x:Nat}:(OA ls (es.getD x lZ)=0->oH ls es x=none)/\(¬OA ls (es.getD x lZ)=0->oH ls es x=some (OA ls (es.getD x lZ))):=by
 unfold OA oH;split
 .exact⟨λh=>(by cases h),λ_=>rfl⟩
 .split
  .exact⟨λh=>(by cases h),λ_=>rfl⟩
  .exact⟨λ_=>rfl,λh=>absurd rfl h⟩
theorem F7{ls:List LayD}{x:Nat}(hx:x<ls.length):(lV (ls.take (x+1))=0->pI ls x=none)/\(¬lV (ls.take (x+1))=0->pI ls x=some (lV (ls.take (x+1)))):=by
 rw[zS hx];unfold pI;split
 .exact⟨λh=>(by cases h),λ_=>rfl⟩
 .split
  .exact⟨λh=>(by cases h),λ_=>rfl⟩
  .exact⟨λ_=>rfl,λh=>absurd rfl h⟩
theorem U2{es:List EntR}(h:∀e∈es,qQ e){x:Nat}(hx:x<es.length):qQ (es.getD x lZ):=by
 have:es.getD x lZ=es[x]:=by simp[jH,hx]
 rw[this];exact h _ (tq hx)
theorem VT{ls:List LayD}{n:Nat}(h:∀l∈ls,l.name.size<=n)(x:Nat):(ls.getD x L0).name.size<=n:=by
 by_cases hx:x<ls.length
 .have:ls.getD x L0=ls[x]:=by simp[jH,hx]
  rw[this];exact h _ (tq hx)
 .have:ls.getD x L0=L0:=by simp[jH,Nat.le_of_not_lt hx]
  rw[this];exact lN _
theorem Dk:rz zG<=8:=aU (Xg 1 1000 ψ ⟨ψ,ψ⟩ ⟨ψ,ψ⟩) ψ
theorem TM{a:Rat}(h:rz a<=12):rz (a*zG)<=20:=by
 have h1:=jh a zG;have h2:=Dk;omega
theorem Pv:rz ((10000000:Int):Rat)<=4:=Vh _ ψ ψ
end Go.Sw
namespace Go.Proofs.YtmniihkenijjpaaGreatDoor
open Go Go.RowKit Go.Sw
set_option maxRecDepth 100000
set_option maxHeartbeats 16000000
end Go.Proofs.YtmniihkenijjpaaGreatDoor
namespace Go.Proofs.YtmniihkenijjpaaGreatDoor
open Go Go.RowKit Go.Sw
set_option maxRecDepth 100000
set_option maxHeartbeats 16000000
set_option synthInstance.maxSize 4000
set_option synthInstance.maxHeartbeats 400000
instance Zc(a b:Rat):DenI Tryz.prog 206 [R a,R b] (rz a<=4000000/\rz b<=4000000) (R (a+b)):=⟨λhp=>by
 have i_a:RzB a 4000000:=⟨hp.1⟩
 have i_b:RzB b 4000000:=⟨hp.2⟩
 all_goals refine aA Tryz.func206 rfl ?_
 all_goals(repeat'((try(conv=>whnf));first
  |refine y5 ?_ ?_|apply zaq))
 all_goals(try apply zar)
 all_goals first
  |rfl|exact zau⟩
instance YE(a b:Rat):DenI Tryz.prog 203 [R a,R b] (rz a<=4000000/\rz b<=4000000) (R (a-b)):=⟨λhp=>by
 have i_a:RzB a 4000000:=⟨hp.1⟩
 have i_b:RzB b 4000000:=⟨hp.2⟩
 all_goals refine aA Tryz.func203 rfl ?_
 all_goals(repeat'((try(conv=>whnf));first
  |refine y5 ?_ ?_|apply zaq))
 all_goals(try apply zar)
 all_goals first
  |rfl|exact zau⟩
instance YL(a b:Rat):DenI Tryz.prog 204 [R a,R b] (rz a<=4000000/\rz b<=4000000) (R (a*b)):=⟨λhp=>by
 have i_a:RzB a 4000000:=⟨hp.1⟩
 have i_b:RzB b 4000000:=⟨hp.2⟩
 all_goals refine aA Tryz.func204 rfl ?_
 all_goals(repeat'((try(conv=>whnf));first
  |refine y5 ?_ ?_|apply zaq))
 all_goals(try apply zar)
 all_goals first
  |rfl|exact zau⟩
instance XG(a b:Rat):DenI Tryz.prog 207 [R a,R b] (rz a<=4000000/\rz b<=4000000) (R (a / b)):=⟨λhp=>by
 have i_a:RzB a 4000000:=⟨hp.1⟩
 have i_b:RzB b 4000000:=⟨hp.2⟩
 all_goals refine aA Tryz.func207 rfl ?_
 all_goals(repeat'((try(conv=>whnf));first
  |refine y5 ?_ ?_|refine aa5 ?_ (λ_=>?_) (λ_=>?_)|(with_reducible refine aav (λ_=>?_) (λ_=>?_))|apply zaq))
 all_goals(try apply zar)
 all_goals(try simp only[dO]at *)
 all_goals first
  |rfl|(subst b;exact congrArg R (Ue a))|omega|(exfalso;simp at *;done)⟩
instance WY(a:Rat):DenI Tryz.prog 205 [R a] (rz a<=4000000) (.bool (decide (a=0))):=⟨λhp=>by
 have i_a:RzB a 4000000:=⟨hp⟩
 all_goals refine aA Tryz.func205 rfl ?_
 all_goals(repeat'((try(conv=>whnf));first
  |refine aaj ?_|apply zaq))
 all_goals(try simp only[dO]at *)
 all_goals first
  |rfl⟩
instance WX(a b c d e f:Rat):DenC Tryz.prog 165 [Q2 a b,Q2 c d,Q2 e f] (rz a<=200/\rz b<=200/\rz c<=200/\rz d<=200/\rz e<=200/\rz f<=200) (((c-a)*(f-b)-(d-b)*(e-a))=0) (.tup [Z8,.int .i64 6]) (.tup [Q3 (a+((((c-a)*(c-a)+(d-b)*(d-b))*(f-b)-((e-a)*(e-a)+(f-b)*(f-b))*(d-b)) / (((c-a)*(f-b)-(d-b)*(e-a))+((c-a)*(f-b)-(d-b)*(e-a))))) (b+((((e-a)*(e-a)+(f-b)*(f-b))*(c-a)-((c-a)*(c-a)+(d-b)*(d-b))*(e-a)) / (((c-a)*(f-b)-(d-b)*(e-a))+((c-a)*(f-b)-(d-b)*(e-a))))) (((((c-a)*(c-a)+(d-b)*(d-b))*(f-b)-((e-a)*(e-a)+(f-b)*(f-b))*(d-b)) / (((c-a)*(f-b)-(d-b)*(e-a))+((c-a)*(f-b)-(d-b)*(e-a))))*((((c-a)*(c-a)+(d-b)*(d-b))*(f-b)-((e-a)*(e-a)+(f-b)*(f-b))*(d-b)) / (((c-a)*(f-b)-(d-b)*(e-a))+((c-a)*(f-b)-(d-b)*(e-a))))+((((e-a)*(e-a)+(f-b)*(f-b))*(c-a)-((c-a)*(c-a)+(d-b)*(d-b))*(e-a)) / (((c-a)*(f-b)-(d-b)*(e-a))+((c-a)*(f-b)-(d-b)*(e-a))))*((((e-a)*(e-a)+(f-b)*(f-b))*(c-a)-((c-a)*(c-a)+(d-b)*(d-b))*(e-a)) / (((c-a)*(f-b)-(d-b)*(e-a))+((c-a)*(f-b)-(d-b)*(e-a))))),.int .i64 0]):=⟨aib λhp q e1 e2=>by
 have i_a:RzB a 200:=⟨hp.1⟩
 have i_b:RzB b 200:=⟨hp.2.1⟩
 have i_c:RzB c 200:=⟨hp.2.2.1⟩
 have i_d:RzB d 200:=⟨hp.2.2.2.1⟩
 have i_e:RzB e 200:=⟨hp.2.2.2.2.1⟩
 have i_f:RzB f 200:=⟨hp.2.2.2.2.2⟩
 all_goals refine aA Tryz.func165 rfl ?_
 all_goals(repeat'((try(conv=>whnf));first
  |refine y5 ?_ ?_|(with_reducible refine aah (λ_=>?_) (λ_=>?_))|refine zas ζ ?_|apply zaq))
 all_goals(try apply zar)
 all_goals first
  |(rw[e1 ξ];rfl)|(rw[e2 ξ];rfl)|exact zau⟩
end Go.Proofs.YtmniihkenijjpaaGreatDoor
namespace Go.Proofs.YtmniihkenijjpaaGreatDoor
open Go Go.RowKit Go.Sw
set_option maxRecDepth 100000
set_option maxHeartbeats 16000000
instance WB(neg:Bool)(l:List Nat):DenI Tryz.prog 221 [Zr neg l] (l.length<=9223372036854775807) (.bool (dM neg l)):=⟨λhp=>by
 refine aA Tryz.func221 rfl ?_
 all_goals first
  |((conv=>whnf);refine Sw.Loop.inv (α:=Nat) (λx=>[(1,.ptr 1 0),(2,.bool false),(7,.c (lmc l)),(8,.int .i64 (l.length:Nat)),(9,.int .i64 x)]) (λx=>[(1,.var [.v (.bool neg),lmc l])]) (λx=>x<=l.length/\∀j,j<x->l.getD j 0<1000000000) (λx=>l.length-x) 0 ?_ ?_ ?_ (λx hx=>?_))
 all_goals(repeat'((try(conv=>whnf));first
  |(with_reducible first|refine aah (λ_=>?_) (λ_=>?_)|refine aaB ?_ ?_)|apply zaq))
 all_goals(try apply zar)
 all_goals first|(show SubE _ _;repeat'(first|exact trivial|refine And.intro ?_ ?_))|(show SubB _ _;repeat'(first|exact trivial|refine And.intro ?_ ?_))|skip
 all_goals(try rfl)
 all_goals(try simp only[aN,fB]at *)
 all_goals first
  |exact bE (Sm (x:=x) ω ξ)|((conv=>whnf);exact⟨x+1,⟨⟨rfl,rfl,rfl,rfl,aK ω,trivial⟩,⟨rfl,trivial⟩,⟨ω,λj hj=>by rcases Nat.lt_succ_iff_lt_or_eq.1 hj with h|h;exact hx.2 j h;subst h;omega⟩,by show l.length-(x+1)<l.length-x;omega⟩⟩)|omega|exact⟨ω,λj hj=>by omega⟩|rfl|(rw[aT ω ω];omega)|(have w:(IntKind.i64.wrap ((l.length:Int)-1)).toNat=l.length-1:=(by rw[aT ω ω];omega);rw[w];exact bE (BA (zZ λj hj=>hx.2 j ω) ω))|exact bE (zU ω)⟩
instance ZQ(n1:Bool)(l1:List Nat)(n2:Bool)(l2:List Nat):DenI Tryz.prog 178 [Rr n1 l1 n2 l2] (l1.length<=1000000000/\l2.length<=1000000000) (.bool (gB n1 l1 n2 l2)):=⟨λhp=>by
 rcases yK n1 l1 n2 l2 with h|⟨x,rfl,rfl,h⟩|⟨x,y,rfl,rfl,rfl,rfl⟩
 all_goals refine aA Tryz.func178 rfl ?_
 all_goals(repeat'((try(conv=>whnf));first
  |refine aaj ?_|refine y5 ?_ ?_|(with_reducible first|refine aam ?_|refine aao ?_|refine aah (λ_=>?_) (λ_=>?_))|refine zat (λ_=>?_) (λ_=>?_)|apply zaq))
 all_goals(try apply zar)
 all_goals(try simp only[dO]at *)
 all_goals first
  |(simp only[mY]at *;exfalso;simp_all;done)|(exfalso;simp_all;done)|exact bE (Xa (x:=x) (y:=y) ω)|exact bE (X8 (x:=x) (y:=y) ω)|exact bE (by unfold gB;simp_all)|exact hp|(first|exact aU hp.1 ψ|exact aU hp.2 ψ)⟩
end Go.Proofs.YtmniihkenijjpaaGreatDoor
namespace Go.Proofs.YtmniihkenijjpaaGreatDoor
open Go Go.RowKit Go.Sw
set_option maxRecDepth 100000
set_option maxHeartbeats 16000000
set_option synthInstance.maxSize 4000
set_option synthInstance.maxHeartbeats 400000
instance Wu(a b c:Rat):DenI Tryz.prog 269 [R a,R b,R c] (rz a<=1000000/\rz b<=1000000/\rz c<=1000000) (.int .i64 (nG a b c)):=⟨λhp=>by
 have i_a:RzB a 1000000:=⟨hp.1⟩
 have i_b:RzB b 1000000:=⟨hp.2.1⟩
 have i_c:RzB c 1000000:=⟨hp.2.2⟩
 all_goals refine aA Tryz.func269 rfl ?_
 all_goals(repeat'((try(conv=>whnf));first
  |refine aaj ?_|refine y5 ?_ ?_|(with_reducible first|refine aam ?_|refine aao ?_|refine aah (λ_=>?_) (λ_=>?_))|refine zas ζ ?_|apply zaq))
 all_goals(try apply zar)
 all_goals(try simp only[dO]at *)
 all_goals(try simp only[XA,Xb]at *)
 all_goals first
  |with_reducible exact XM ξ|with_reducible exact XB ξ|with_reducible exact Yl ξ ξ ξ|with_reducible exact Xy ξ ξ ξ|exact zau⟩
instance Wy(a b c f:Rat):DenI Tryz.prog 301 [R a,R b,R c,R f] (rz a<=40000/\rz b<=40000/\rz c<=40000/\rz f<=40000) (Ov (dh a b c f)):=⟨λhp=>by
 have i_a:RzB a 40000:=⟨hp.1⟩
 have i_b:RzB b 40000:=⟨hp.2.1⟩
 have i_c:RzB c 40000:=⟨hp.2.2.1⟩
 have i_f:RzB f 40000:=⟨hp.2.2.2⟩
 all_goals refine aA Tryz.func301 rfl ?_
 all_goals(repeat'((try(conv=>whnf));first
  |refine y5 ?_ ?_|(with_reducible first|refine aam ?_|refine aao ?_)|refine zat (λ_=>?_) (λ_=>?_)|refine zas ζ ?_|apply zaq))
 all_goals(try apply zar)
 all_goals(try simp only[Prod.eta]at *)
 all_goals first
  |omega|(have z1:=zC a b c;have z2:=fE f;unfold wE at *;omega)|(refine Ux (ND ?_);first|exact .inl ξ|exact .inr ξ)|(refine qh ?_ (congrArg Ov (Sj ξ ξ));rfl)⟩
instance UM(X Y Q ax bx ay bb c:Rat):DenI Tryz.prog 268 [Q3 X Y Q,Q5 ax bx ay bb c] (rz X<=40000/\rz Y<=40000/\rz Q<=40000/\rz ax<=40000/\rz bx<=40000/\rz ay<=40000/\rz bb<=40000/\rz c<=40000) (.tup [.int .i64 (gq ax bx ay bb c X Y Q).1,.bool (gq ax bx ay bb c X Y Q).2]):=⟨λhp=>by
 have i_X:RzB X 40000:=⟨hp.1⟩
 have i_Y:RzB Y 40000:=⟨hp.2.1⟩
 have i_Q:RzB Q 40000:=⟨hp.2.2.1⟩
 have i_ax:RzB ax 40000:=⟨hp.2.2.2.1⟩
 have i_bx:RzB bx 40000:=⟨hp.2.2.2.2.1⟩
 have i_ay:RzB ay 40000:=⟨hp.2.2.2.2.2.1⟩
 have i_bb:RzB bb 40000:=⟨hp.2.2.2.2.2.2.1⟩
 have i_c:RzB c 40000:=⟨hp.2.2.2.2.2.2.2⟩
 all_goals refine aA Tryz.func268 rfl ?_
 all_goals(repeat'((try(conv=>whnf));first
  |refine aaj ?_|refine y5 ?_ ?_|(with_reducible first|refine aam ?_|refine aao ?_)|refine zat (λ_=>?_) (λ_=>?_)|refine zas ζ ?_|apply zaq))
 all_goals(try apply zar)
 all_goals(try simp only[Prod.eta]at *)
 all_goals first
  |omega|(have z1:=yU ax bx c X;have z2:=yU ay bb c Y;have z3:=fE Q;unfold wE at *;omega)|(have z1:=qV ((dh ax bx c X).getD (0,0)) ((dh ax bx c X).getD (0,0));have z2:=qV ((dh ay bb c Y).getD (0,0)) ((dh ay bb c Y).getD (0,0));have z3:=fE Q;have z4:=wz z1 z2;unfold wE at *;omega)|(refine WR (Yk ?_);first|exact .inl ξ|exact .inr (.inl ξ)|exact .inr (.inr ξ))|(rw[VE (ax:=ax) (bx:=bx) (ay:=ay) (bb:=bb) (c:=c) (X:=X) (Y:=Y) (Q:=Q) ξ ξ ξ rfl rfl rfl];generalize(dh ax bx c X).getD (0,0)=u at *;generalize(dh ay bb c Y).getD (0,0)=v at *;generalize(bD Q).getD (0,0)=w at *;rcases k1:kJ u u with _|s<;>rcases k2:kJ v v with _|t<;>first|rfl|(exfalso;simp_all;done)|(simp only[k1,k2,vP,Option.isSome_some]at *;rcases k3:mg s t with _|m<;>first|rfl|(exfalso;simp_all;done)|(simp only[k3,vP,Option.isSome_some]at *;rcases k4:mg m (-w.2,-w.1)with _|r<;>first|rfl|(exfalso;simp_all;done))))⟩
instance Uf(X Y Q ax bx ay bb c:Rat):DenI Tryz.prog 238 [Q3 X Y Q,Q5 ax bx ay bb c] (rz X<=7000/\rz Y<=7000/\rz Q<=27000/\rz ax<=12/\rz bx<=12/\rz ay<=12/\rz bb<=12/\rz c<=12) (.int .i64 (-(nG ((ax-X)*(ax-X)+(ay-Y)*(ay-Y)+c*(bx*bx+bb*bb)-Q) ((ax-X)*bx+(ay-Y)*bb+((ax-X)*bx+(ay-Y)*bb)) c))):=⟨λhp=>by
 obtain⟨q0,q1,q2,q3,q4,q5,q6,q7⟩:=hp;have i_X:RzB X 7000:=⟨q0⟩
 have i_Y:RzB Y 7000:=⟨q1⟩
 have i_Q:RzB Q 27000:=⟨q2⟩
 have i_ax:RzB ax 12:=⟨q3⟩
 have i_bx:RzB bx 12:=⟨q4⟩
 have i_ay:RzB ay 12:=⟨q5⟩
 have i_bb:RzB bb 12:=⟨q6⟩
 have i_c:RzB c 12:=⟨q7⟩
 all_goals refine aA Tryz.func238 rfl ?_
 all_goals(repeat'((try(conv=>whnf));first
  |refine y5 ?_ ?_|refine zat (λ_=>?_) (λ_=>?_)|refine zas ζ ?_|apply zaq))
 all_goals(try apply zar)
 all_goals first
  |(exact VO ξ (NW ξ) (vW _ _ _).1 (vW _ _ _).2)|(refine SS ?_;rfl)|exact zau⟩
instance Ze(X Y Q x y:Rat):DenI Tryz.prog 238 [Q3 X Y Q,Q5 x 0 y 0 0] (rz X<=7000/\rz Y<=7000/\rz Q<=27000/\rz x<=12/\rz y<=12) (.int .i64 (-(aC ((x-X)*(x-X)+(y-Y)*(y-Y)-Q)))):=⟨λ⟨h1,h2,h3,h4,h5⟩=>by
 have h:=(Uf X Y Q x 0 y 0 0).den ⟨h1,h2,h3,h4,by decide +kernel,h5,by decide +kernel,by decide +kernel⟩;rw[Q9,show(x-X)*(x-X)+(y-Y)*(y-Y)+0*(0*0+0*0)-Q=(x-X)*(x-X)+(y-Y)*(y-Y)-Q by grind]at h
 exact h⟩
end Go.Proofs.YtmniihkenijjpaaGreatDoor
