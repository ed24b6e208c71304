/-
  Rules of the abstract run, plain laws, and what functions answer, for the law TopMeetings.
  Conditions: none.
-/
import Derived.Test.YtdpkjhnfklkkjaaGreatM1
import Derived.Laws.Strings
set_option linter.all false
set_option maxHeartbeats 16000000
namespace Go.Sw
open Go Go.RowKit
theorem LV{a b:Int}{x y:Nat}(ha:a=x)(hb:b=y)(hx:x<=18446744073709551615):IntKind.u64.wrap (a.tdiv b)=((x/y:Nat):Int):=by
 subst ha hb;rw[<-Int.ofNat_tdiv];have:=OU x y;generalize x/y=q at this ⊢;exact wu64 ω ω
theorem Ro{a b:Int}{x y:Nat}(ha:a=x)(hb:b=y):a.tmod b=((x%y:Nat):Int):=by
 subst ha hb;exact(Int.ofNat_tmod x y).symm
theorem jH{L:List (Nat×Value)}{x:Operand}{k:IntKind}{a b:Int}(h:ev L x=some (.int k a))(e:a=b):ev L x=some (.int k b):=by rw[h,e]
theorem H7{L:List Nat}{i:Nat}{v:Value}(h:i<L.length):i+(#[v]:Array Value).size<=((us L).toArray).size:=by simp;omega
theorem UL.own{w:World}{X:List Nat}{g n c:Nat}{t:TypeId}{L l:List Nat}(hg:w.heap[g]?=some (.cells (us L).toArray t (0,0)))(hx:g ∉ X)(hn:n=L.length)(hc:c=L.length)(hl:L.length<=9223372036854775807)(e:L=l):UL w X (.slice (some ⟨g,0,none⟩) n c) l:=by
 subst hn hc e;exact⟨_,_,_,rfl,rfl,UC.of_box hg hx hl⟩
theorem UL.cap{w:World}{X:List Nat}{A:Option Addr}{n c:Nat}{l:List Nat}(h:UC w X A l.length l)(hn:n=l.length)(hc:c=l.length):UL w X (.slice A n c) l:=by
 subst hn hc;exact⟨_,_,_,rfl,rfl,h⟩
def ahZ(t:TypeId)(w w':World)(v:Value)(l:List Nat):Prop:=∃g,v=.slice (some ⟨g,0,none⟩) l.length l.length/\w'.heap[g]?=some (.cells (us l).toArray t (0,0))/\w.heap.size<=g
theorem Own.mk_{t:TypeId}{w0 w:World}{g n c:Nat}{L l:List Nat}(hg:w.heap[g]?=some (.cells (us L).toArray t (0,0)))(hb:w0.heap.size<=g)(hn:n=L.length)(hc:c=L.length)(e:L=l):ahZ t w0 w (.slice (some ⟨g,0,none⟩) n c) l:=by
 subst hn hc e;exact⟨g,rfl,hg,hb⟩
theorem St.notX{w0 w:World}{S:List Bx}{X:List Nat}(h:St w0 w S)(hX:∀m∈X,m<w0.heap.size)(k:Nat){g:Nat}{t:TypeId}{cs:Array Value}(hk:S[k]?=some (g,t,cs)):g ∉ X:=λhm=>by
 have:=hX g hm;have:=h.base k hk;omega
theorem St.out{w0 w:World}{S:List Bx}{X:List Nat}(h:St w0 w S)(hX:∀m∈X,m<w0.heap.size)(k:Nat){g:Nat}{t:TypeId}{cs:Array Value}(hk:S[k]?=some (g,t,cs)):St w0 w (S.eraseIdx k)/\g ∉ bl (S.eraseIdx k)++X:=by
 refine⟨h.drop (List.eraseIdx_sublist S k),λhm=>?_⟩;rcases uh.1 hm with hm|hm
 .obtain⟨b,hb,e⟩:=iV.1 hm;obtain⟨i,hne,hi⟩:=List.mem_eraseIdx_iff_getElem?.1 hb;have hil:i<S.length:=(qG.1 hi).1;have hkl:k<S.length:=(qG.1 hk).1;have hiv:S[i]=b:=(qG.1 hi).2;have hkv:S[k]=(g,t,cs):=(qG.1 hk).2;rcases Nat.lt_or_gt_of_ne hne with hlt|hgt
  .have:=qbP.1 h.nd i k hil hkl hlt;rw[hiv,hkv]at this;exact this e
  .have:=qbP.1 h.nd k i hkl hil hgt;rw[hiv,hkv]at this;exact this e.symm
 .exact h.notX hX k hk hm
theorem St.push_new{w0 w w':World}{S:List Bx}(h:St w0 w S)(hb:Below w.heap.size w w'){g:Nat}{t:TypeId}{cs:Array Value}(hg:w'.heap[g]?=some (.cells cs t (0,0)))(hn:w.heap.size<=g):St w0 w' ((g,t,cs)::S) :=
 (h.call hb).push hg (fZ h.below.size hn) (λhm=>by
  obtain⟨b,hb',e⟩:=iV.1 hm;have:=h.lt hb'
  omega)
theorem Ext.push_new{w w':World}(X:List Nat)(hb:Below w.heap.size w w'){g:Nat}(hn:w.heap.size<=g):Ext w X w' (g::X):=(Ext.call X hb).add hn
theorem agp{P:Program}{s:Sem Next}{w w':World}{t b:Bool}(h:t=b)(hr:s.run P w=.ok (.value (.bool t)) w'):s.run P w=.ok (.value (.bool b)) w':=h▸hr
section
variable {P:Program} {ρ:Operand->Value} {w:World} {d:Option Tmp} {ty:TypeId} {pos:String} {af:Array Edge} {gd:Option (Nat × Bool)}
end
theorem DK{n:Nat}(h:n<=4294967295):IntKind.u32.wrap ((n:Nat):Int)=((n:Nat):Int):=dO ω ω
theorem mF{n:Nat}(h:n<=18446744073709551615):IntKind.u64.wrap ((n:Nat):Int)=((n:Nat):Int):=wu64 ω ω
theorem ag8{a:Int}(h1 : -9223372036854775808<=a)(h2:a<0):IntKind.i64.wrap (0-IntKind.i64.wrap (a.natAbs:Int))=a:=by
 rw[IntKind.wrap_i64 (n:=((a.natAbs:Nat):Int))];have h3:(a.natAbs:Int) = -a:=ω
 rw[h3,IntKind.wrap_i64];omega
theorem Xk{a:Int}(h1:a<=9223372036854775807)(h2:¬ a<0):IntKind.i64.wrap (a.natAbs:Int)=a:=by
 have h3:(a.natAbs:Int)=a:=ω
 rw[h3,IntKind.wrap_i64];omega
theorem NI{a:Int}(h1 : -9223372036854775808<=a)(h2:a<0):IntKind.i64.wrap (IntKind.u64.wrap (0-(a.natAbs:Int)))=a:=by
 have h3:(a.natAbs:Int) = -a:=ω
 rw[h3,IntKind.wrap_u64,IntKind.wrap_i64];omega
end Go.Sw
namespace Go.Sw
open Go
def win(o:List Nat)(k i:Nat):List Nat:=(o.drop k).take i
theorem getD_drop(o:List Nat)(k i:Nat):(o.drop k).getD i 0=o.getD (k+i) 0:=by
 simp[List.getD,Pj]
theorem win_zero(o:List Nat)(k:Nat):val (win o k 0)=0:=by simp[win,val]
theorem rM(o:List Nat)(k i:Nat):val (win o k (i+1))=val (win o k i)+1000000000^i*o.getD (k+i) 0:=by
 unfold win;rw[bY,getD_drop]
theorem Jq{o:List Nat}{k i x:Nat}:win (o.set (k+i) x) k i=win o k i:=by
 unfold win;apply qbI;intro j;simp only[Pz,Pj,List.getElem?_set];split
 .rw[if_neg ω]
 .rfl
theorem O9{o:List Nat}{k i x:Nat}(h:k+i<o.length):val (win (o.set (k+i) x) k (i+1))=val (win o k i)+1000000000^i*x:=by
 rw[rM,Jq,qE h]
theorem nO{o:List Nat}{k i x:Nat}:(o.set (k+i) x).take k=o.take k:=by
 apply qbI;intro j;simp only[Pz,List.getElem?_set];split
 .rw[if_neg ω]
 .rfl
theorem set_drop{o:List Nat}{k i x:Nat}:(o.set (k+i) x).drop (k+(i+1))=o.drop (k+(i+1)):=Ac ω
theorem lu{o U:List Nat}{k i:Nat}(h:o.drop (k+i)=U.drop (k+i)):o.drop (k+(i+1))=U.drop (k+(i+1)):=by
 have h2:=congrArg (List.drop 1) h;rw[MR,MR]at h2;exact h2
theorem Gs{o U:List Nat}{k:Nat}(h:o.drop k=U.drop k):o.getD k 0=U.getD k 0:=by
 have h1:=getD_drop o k 0;have h2:=getD_drop U k 0;rw[h]at h1;simpa using h1.symm.trans h2
theorem xU{o U v:List Nat}{k i cr br bw x z t b2:Nat}(hk:k+i<o.length)(hv:val (win o k i)+val (v.take i)*bw=val (win U k i)+1000000000^i*(cr+br))(hx:U.getD (k+i) 0=x)(ht:t=cr+v.getD i 0*bw)(hz:z+(t%1000000000+br)=x+1000000000*b2):
 val (win (o.set (k+i) z) k (i+1))+val (v.take (i+1))*bw=val (win U k (i+1))+1000000000^(i+1)*(t/1000000000+b2):=by
 rw[O9 hk,rM,bY,hx,EU];have h1:=Nat.div_add_mod t 1000000000;generalize t/1000000000=q at *;generalize t%1000000000=r at *;generalize 1000000000^i=B at *;generalize v.getD i 0=y at *;generalize val (v.take i)=V at *;have e1:(V+B*y)*bw=V*bw+B*(y*bw):=by rw[Nat.add_mul,Zt]
 have e2:B*1000000000*(q+b2)=B*(1000000000*q)+B*(1000000000*b2):=by rw[Zt,EN,EN]
 have e3:B*z+B*(y*bw)+B*br=B*x+B*(1000000000*q)+B*(1000000000*b2)-B*cr/\B*cr<=B*x+B*(1000000000*q)+B*(1000000000*b2):=by
  have:z+y*bw+br+cr=x+1000000000*q+1000000000*b2:=ω
  have h2:=congrArg (B * ·) this;simp only[EN]at h2;omega
 rw[e1,e2];rw[EN]at hv;omega
theorem yu{o U v:List Nat}{k i cr x z c2:Nat}(hk:k+i<o.length)(hv:val (win o k i)+1000000000^i*cr=val (win U k i)+val (v.take i))(hx:U.getD (k+i) 0=x)(hz:z+1000000000*c2=x+cr+v.getD i 0):
 val (win (o.set (k+i) z) k (i+1))+1000000000^(i+1)*c2=val (win U k (i+1))+val (v.take (i+1)):=by
 rw[O9 hk,rM,bY,hx,EU];generalize 1000000000^i=B at *;generalize v.getD i 0=y at *;have h2:=congrArg (B * ·) hz;simp only[EN]at h2;rw[Zt];omega
end Go.Sw
namespace Go.Sw
theorem afJ(P v1 v2 g w2 rest lo low top:Nat)(h:g*v2>rest*1000000000+w2)(ht:g*v1+rest=top)(hlo:low<P):low+P*w2+P*1000000000*top<g*(lo+P*v2+P*1000000000*v1):=by
 have h1:P*(rest*1000000000+w2+1)<=P*(g*v2):=Ie P h;subst ht
 grind
theorem aho(P v1 v2 g w2 rest lo low top:Nat)(h:g*v2<=rest*1000000000+w2)(ht:g*v1+rest=top)(hg:g<1000000000)(hl:lo<P)(hv:0<v1):g*(lo+P*v2+P*1000000000*v1)<=(low+P*w2+P*1000000000*top)+(lo+P*v2+P*1000000000*v1):=by
 have h1:P*(g*v2)<=P*(rest*1000000000+w2):=Ie P h;have h2:g*lo<=g*P:=Ie g ω;have h3:g*P<=1000000000*P:=Nat.mul_le_mul_right P ω;have h4:P*1<=P*v1:=Ie P hv;subst ht
 grind
theorem Yp(Q v1 top g lo low:Nat)(hv:0<v1)(hl:low<Q)(hg:g=top/v1):low+Q*top<(g+1)*(lo+Q*v1):=by
 have h1:top<(g+1)*v1:=by subst hg;have:=Nat.lt_mul_div_succ top hv;rw[Gx]at this;exact this
 have h2:Q*(top+1)<=Q*((g+1)*v1):=Ie Q h1
 grind
theorem acf(Q v1 top lo low:Nat)(hl:lo<Q)(hv:1000000000<=2*v1)(hw:low+Q*top<1000000000*(lo+Q*v1)):top/v1<=1000000001:=by
 have h1:Q*top<Q*(1000000000*(v1+1)):=ν
 have h2:top<1000000000*(v1+1):=Nat.lt_of_mul_lt_mul_left h1;have h3:top<1000000002*v1:=ω
 have:=(Nat.div_lt_iff_lt_mul (k:=v1) ω).2 h3;omega
theorem lX{U:List Nat}{k m:Nat}(h:k+m<=U.length):val (U.drop k)=val (win U k m)+1000000000^m*val (U.drop (k+m)):=by
 have h1:=RP m (U.drop k);have h2:((U.drop k).take m).length=m:=by simp;omega
 conv=>lhs;rw[<-h1,val_append,h2,MR]
 rfl
theorem yY{U:List Nat}{k:Nat}(h:k<=U.length):val U=val (U.take k)+1000000000^k*val (U.drop k):=by
 have h2:(U.take k).length=k:=by simp;omega
 conv=>lhs;rw[<-RP k U,val_append,h2]
theorem zQ{U:List Nat}(h:Lb U)(k m:Nat):val (win U k m)<1000000000^m:=by
 have h1:=iG (win U k m) ((h.drop k).take m);refine Ea h1 (Gi ω ?_);simp[win];omega
theorem sK{U:List Nat}(h:Lb U)(m:Nat):val (U.take m)<1000000000^m:=by
 have h1:=iG (U.take m) (h.take m);refine Ea h1 (Gi ω ?_);simp;omega
theorem BD(U:List Nat)(k n:Nat)(hn:2<=n):val (win U k (n+1))=val (win U k (n-2))+1000000000^(n-2)*U.getD (k+n-2) 0+1000000000^(n-2)*1000000000*(U.getD (k+n) 0*1000000000+U.getD (k+n-1) 0):=by
 obtain⟨m,rfl⟩:∃m,n=m+2:=⟨n-2,ω⟩
 rw[rM,rM,rM,show m+2-2=m by omega,show k+(m+2)-2=k+m by omega,show k+(m+2)-1=k+(m+1) by omega,EU,EU]
 grind
theorem A8(v:List Nat)(n:Nat)(hl:v.length=n)(hn:2<=n):val v=val (v.take (n-2))+1000000000^(n-2)*v.getD (n-2) 0+1000000000^(n-2)*1000000000*v.getD (n-1) 0:=by
 obtain⟨m,rfl⟩:∃m,n=m+2:=⟨n-2,ω⟩
 rw[<-cZ (l:=v) (k:=m+1+1) ω,bY,bY,show m+2-2=m by omega,show m+2-1=m+1 by omega,EU]
def DivInv(u0 V:Nat)(U Q:List Nat)(j:Nat):Prop:=u0=V*(1000000000^j*val (Q.drop j))+val U/\val (U.drop j)<V
structure DigW (v U:List Nat) (k n:Nat):Prop where
 lt:val (win U k (n+1))<1000000000*val v
 rest:val (U.drop (k+(n+1)))=0
theorem DivInv.win{u0:Nat}{v U Q:List Nat}{j n:Nat}(h:DivInv u0 (val v) U Q j)(hj:0<j)(hl:j+n<=U.length)(hv:Lb v)(hU:Lb U)(hn:v.length=n):DigW v U (j-1) n:=by
 obtain⟨k,rfl⟩:∃k,j=k+1:=⟨j-1,ω⟩
 have h2:=h.2;have h3:=lX hl;have h4:=iG v hv;rw[hn]at h4
 have h0:val (U.drop (k+1+n))=0:=by
  cases yD (val (U.drop (k+1+n)))with
  |inl h=>exact h
  |inr h=>have:=Ie (1000000000^n) h;omega
 rw[h0,TP]at h3;rw[show k+1-1=k by omega];refine⟨?_,by rw[show k+(n+1)=k+1+n by omega];exact h0⟩;have h5:=ru (l:=U) (k:=k+1) ω ω;rw[show k+1-1=k by omega]at h5;have h6:=lX (U:=U) (k:=k) (m:=n+1) ω;rw[show k+(n+1)=k+1+n by omega,h0,TP]at h6;have h7:=hU.getD k;omega
theorem Rw{v U:List Nat}{k n top:Nat}(hd:DigW v U k n)(hn:2<=n)(hl:v.length=n)(hv:Lb v)(hU:Lb U)(h2:1000000000<=2*v.getD (n-1) 0)(ht:top=U.getD (k+n) 0*1000000000+U.getD (k+n-1) 0):
 val (win U k (n+1))<(top/v.getD (n-1) 0+1)*val v/\top/v.getD (n-1) 0<=1000000001:=by
 have h3:=BD U k n hn;have h4:=A8 v n hl hn;rw[<-ht]at h3;have h5:=hd.lt;have h6:=zQ hU k (n-2);have h7:=sK hv (n-2);have h8:=hU.getD (k+n-2);have h9:=hv.getD (n-2);generalize val (win U k (n+1))=w at *;generalize val (win U k (n-2))=wl at *;generalize val (v.take (n-2))=vl at *;generalize v.getD (n-1) 0=v1 at *;generalize v.getD (n-2) 0=v2 at *;generalize U.getD (k+n-2) 0=w2 at *;generalize 1000000000^(n-2)=P at *;have hP:P*w2+P<=P*1000000000:=by have:=Ie P (show w2+1<=1000000000 by omega);grind
 have hP2:P*v2+P<=P*1000000000:=by have:=Ie P (show v2+1<=1000000000 by omega);grind
 rw[h3,h4]at h5 ⊢;exact⟨Yp (P*1000000000) v1 top (top/v1) (vl+P*v2) (wl+P*w2) ω ω rfl,acf (P*1000000000) v1 top (vl+P*v2) (wl+P*w2) ω h2 h5⟩
theorem acs{v U:List Nat}{k n g rest:Nat}(hn:2<=n)(hl:v.length=n)(hU:Lb U)
 (hg:g*v.getD (n-1) 0+rest=U.getD (k+n) 0*1000000000+U.getD (k+n-1) 0) (h:g*v.getD (n-2) 0>rest*1000000000+U.getD (k+n-2) 0):val (win U k (n+1))<g*val v:=by
 rw[BD U k n hn,A8 v n hl hn,<-hg];exact afJ _ _ _ _ _ rest _ _ _ h rfl (zQ hU k (n-2))
theorem ae4{v U:List Nat}{k n g:Nat}(hd:DigW v U k n)(h:1000000000<=g):val (win U k (n+1))<g*val v :=
 Ea hd.lt (Nat.mul_le_mul_right _ h)
theorem Oi{v U:List Nat}{k n g rest:Nat}(hn:2<=n)(hl:v.length=n)(hv:Lb v)(h2:1000000000<=2*v.getD (n-1) 0)
 (hg:g*v.getD (n-1) 0+rest=U.getD (k+n) 0*1000000000+U.getD (k+n-1) 0) (hb:g<1000000000) (h:g*v.getD (n-2) 0<=rest*1000000000+U.getD (k+n-2) 0):g*val v<=val (win U k (n+1))+val v:=by
 rw[BD U k n hn,A8 v n hl hn,<-hg];exact aho _ _ _ _ _ rest _ _ _ h rfl hb (sK hv (n-2)) ω
theorem YA{v1 v2 g g1 rest w2 top:Nat}(hg:g*v1+rest=top)(ht:top<1000000000*(v1+1))(hr:1000000000<=rest)(hv2:v2<1000000000)(hg1:g=g1):g1<1000000000/\g1*v2<=rest*1000000000+w2:=by
 subst hg1
 have h1:g<1000000000:=by
  rcases Ju g 1000000000 with h|h
  .exact h
  .have:=Nat.mul_le_mul_right v1 h;omega
 have h2:g*v2<=1000000000*1000000000:=MZ ω ω;exact⟨h1,ω⟩
theorem afs{v U:List Nat}{k n:Nat}(hd:DigW v U k n)(hn:2<=n)(hl:v.length=n)(hv:Lb v):U.getD (k+n) 0*1000000000+U.getD (k+n-1) 0<1000000000*(v.getD (n-1) 0+1):=by
 have h3:=BD U k n hn;have h4:=A8 v n hl hn;have h5:=hd.lt;have h7:=sK hv (n-2);have h9:=hv.getD (n-2);rw[h3,h4]at h5;generalize U.getD (k+n) 0*1000000000+U.getD (k+n-1) 0=top at *;generalize val (win U k (n-2))=wl at *;generalize val (v.take (n-2))=vl at *;generalize v.getD (n-1) 0=v1 at *;generalize v.getD (n-2) 0=v2 at *;generalize U.getD (k+n-2) 0=w2 at *;generalize 1000000000^(n-2)=P at *;have hP2:P*v2+P<=P*1000000000:=by have:=Ie P (show v2+1<=1000000000 by omega);grind
 have h1:(P*1000000000)*top<(P*1000000000)*(1000000000*(v1+1)):=ν
 exact Nat.lt_of_mul_lt_mul_left h1
theorem VU{w w1 V g M cy:Nat}(h:w1+V*g=w+M*cy)(hc:cy=0)(hhi:w<(g+1)*V):w=V*g+w1/\w1<V:=by
 subst hc;rw[TP]at h;refine⟨ω, ?_⟩
 grind
theorem Ze{w w1 w2 V g M cy cy2:Nat}(h:w1+V*g=w+M*cy)(hc:0<cy)(h1:w1<M)(hlo:g*V<=w+V)(hVM:V<=M)(h2:w2+M*cy2=w1+V)(hw2:w2<M)(hc2:cy2<=1):0<g/\w=V*(g-1)+w2/\w2<V:=by
 have hcy:cy=1:=by
  rcases Ju cy 2 with h0|h0
  .omega
  .have h3:=Ie M h0;have h4:V*g<=w+V:=by rw[Gx];exact hlo
   omega
 subst hcy;rw[Nat.mul_one]at h
 have hg:0<g:=by
  rcases yD g with h0|h0
  .subst h0;rw[TP]at h;omega
  .exact h0
 obtain⟨p,rfl⟩:∃p,g=p+1:=⟨g-1,ω⟩
 have h4:V*(p+1)<=w+V:=by rw[Gx];exact hlo
 rw[EN,Nat.mul_one]at h h4;rw[show p+1-1=p by omega]
 have hcy2:cy2=1:=by
  rcases Ju cy2 1 with h0|h0
  .have:cy2=0:=ω
   subst this;rw[TP]at h2;omega
  .omega
 subst hcy2;rw[Nat.mul_one]at h2;exact⟨hg,ω,ω⟩
theorem aaE{w w1 V g M cy:Nat}(h:w1+V*g=w+M*cy)(hc:0<cy)(h1:w1<M):0<g:=by
 rcases yD g with h0|h0
 .subst h0;rw[TP]at h;have:=Ie M hc;omega
 .exact h0
theorem DivInv.step{u0 V:Nat}{U Q o:List Nat}{j k n q w w1:Nat}(h:DivInv u0 V U Q j)(hj:j=k+1)(hl:k+(n+1)<=U.length)(ho:o.length=U.length)(hQ:k<Q.length)
 (htk:o.take k=U.take k) (hdr:o.drop (k+(n+1))=U.drop (k+(n+1))) (h0:val (U.drop (k+(n+1)))=0) (hw:val (Sw.win U k (n+1))=w) (hw1:val (Sw.win o k (n+1))=w1) (hq:w=V*q+w1/\w1<V) :
 DivInv u0 V o (Q.set k q) k:=by
 subst hj;obtain⟨h1,h2⟩:=h;obtain⟨h3,h4⟩:=hq;have hU:=yY (U:=U) (k:=k) ω;have hO:=yY (U:=o) (k:=k) ω;have hUw:=lX hl;have hOw:=lX (U:=o) (k:=k) (m:=n+1) ω;rw[h0,TP]at hUw;rw[hdr,h0,TP]at hOw;rw[hw]at hUw;rw[hw1]at hOw;have hQ2:=sU (l:=Q) (k:=k+1) (d:=q) ω ω;rw[show k+1-1=k by omega]at hQ2;refine⟨?_,ω⟩;rw[hQ2,h1,hU,hO,htk,hUw,hOw,EU,h3]
 grind
theorem DivInv.start{u:List Nat}{V n m:Nat}(hm:u.length=m+n)(hn:0<n)(hb:Lb u)(h0:u.getD (m+n-1) 0=0)(hV:1000000000^(n-1)<=V):DivInv (val u) V u (List.replicate m 0) m:=by
 refine⟨by rw[dA η];simp, ?_⟩;have h1:=lX (U:=u) (k:=m) (m:=n-1) ω;have h2:=zQ hb m (n-1)
 have h3:val (u.drop (m+(n-1)))=0:=by
  rw[drop_cons ω,show m+(n-1)=m+n-1 by omega,h0,List.drop_eq_nil_of_le ω];rfl
 rw[h3,TP]at h1;omega
theorem Fb{b v:List Nat}{s n:Nat}(hb:CanL b)(hn:b.length=n)(h1:0<n)(hs:s=1000000000/(b.getD (n-1) 0+1))(hv:CanL v)(he:val v=val b*s):0<s/\s<1000000000/\v.length=n/\1000000000<=2*v.getD (n-1) 0/\1000000000^(n-1)<=val v:=by
 obtain⟨m,rfl⟩:∃m,n=m+1:=⟨n-1,ω⟩
 rw[show m+1-1=m by omega]at hs ⊢;have hb1:=hb.1.getD m;have htop:val b=val (b.take m)+1000000000^m*b.getD m 0:=by rw[<-cZ (l:=b) (k:=m+1) ω,bY]
 have htl:=sK hb.1 m
 have hne:b.getD m 0≠0:=by
  rcases(Bg hb.1).1 hb with h|h
  .rw[h]at hn;simp at hn
  .rw[hn]at h;exact h
 generalize b.getD m 0=b1 at *;generalize val (b.take m)=bl at *;have hs1:s*(b1+1)<=1000000000:=by rw[hs];exact Nat.div_mul_le_self _ _
 have hs2:1000000000<(s+1)*(b1+1):=by
  have:=Nat.lt_mul_div_succ 1000000000 (show 0<b1+1 by omega);rw[<-hs,Gx]at this;exact this
 have hs0:0<s:=by
  rcases yD s with h|h
  .subst h;omega
  .exact h
 have hsB:s<1000000000:=by
  have:=Ie s (show 2<=b1+1 by omega);omega
 generalize hP:1000000000^m=P at *;have hP0:0<P:=by rw[<-hP];exact Nat.pow_pos ω
 have hVlt:val v<P*1000000000:=by
  rw[he,htop];have h2:(bl+P*b1)*s<P*(b1+1)*s:=Nat.mul_lt_mul_of_pos_right ν hs0;have h3:P*(s*(b1+1))<=P*1000000000:=Ie P hs1
  grind
 have hVge:P*(b1*s)<=val v:=by rw[he,htop];grind
 have hb1s:0<b1*s:=Nat.mul_pos ω hs0
 have hPV:P<=val v:=by
  have:=Ie P hb1s;omega
 have hlen1:v.length<=m+1:=by
  have:=kY (n:=val v) (k:=m+1) (by rw[EU,hP];exact hVlt)
  rwa [hv.eq]at this
 have hlen2:m+1<=v.length:=by
  rcases Ju v.length (m+1)with h|h
  .have h3:=iG v hv.1;have h4:=Gi (n:=1000000000) ω (show v.length<=m by omega);omega
  .exact h
 have hvt:val v=val (v.take m)+P*v.getD m 0:=by rw[<-cZ (l:=v) (k:=m+1) ω,bY,hP]
 have hvl:=sK hv.1 m;rw[hP]at hvl;refine⟨hs0,hsB,ω, ?_,hPV⟩;generalize v.getD m 0=v1 at *
 have hv1:b1*s<=v1:=by
  have h5:P*(b1*s)<P*(v1+1):=ν
  have:=Nat.lt_of_mul_lt_mul_left h5;omega
 obtain⟨t,rfl⟩:∃t,s=t+1:=⟨s-1,ω⟩
 obtain⟨c,rfl⟩:∃c,b1=c+1:=⟨b1-1,ω⟩
 have h6:0<=t*c:=Au _;have h7:1000000000<=2*((c+1)*(t+1))+1:=ν
 omega
theorem Rl{a b s q r rr U:Nat}(hs:0<s)(h:a*s=b*s*q+U)(hlt:U<b*s)(hr:U=s*r+rr)(hrr:rr<s):a=b*q+r/\r<b:=by
 have h1:rr=0:=by
  have h2:s ∣ U:=by
   have h3:s ∣ a*s:=⟨a,Gx _ _⟩
   rw[h]at h3;exact(Nat.dvd_add_right ⟨b*q,ν⟩).1 h3
  have h4:s ∣ rr:=by
   rw[hr]at h2;exact(Nat.dvd_add_right ⟨r,rfl⟩).1 h2
  exact Nat.eq_zero_of_dvd_of_lt h4 hrr
 subst h1;rw[Nat.add_zero]at hr;subst hr;refine⟨Nat.eq_of_mul_eq_mul_left hs ν, ?_⟩;exact Nat.lt_of_mul_lt_mul_left (a:=s) ν
theorem YN{l:List Nat}(h:l.length=1):val l=l.getD 0 0:=by
 match l,h with
 |[x],_=>simp[val]
theorem EM{a b:List Nat}(ha:CanL a)(hb:CanL b)(h:val b<=val a):b.length<=a.length:=by
 rcases Ju a.length b.length with h1|h1
 .have:=jk ha hb h1;omega
 .exact h1
theorem NU(o:List Nat):(o++[0]).getD o.length 0=0:=by simp[List.getD]
theorem Sr(o:List Nat):val (o++[0])=val o:=by rw[val_append];simp[val]
theorem QJ{g v1 r t:Nat}(hg:0<g)(h:g*v1+r=t):(g-1)*v1+(r+v1)=t:=by
 obtain⟨p,rfl⟩:∃p,g=p+1:=⟨g-1,ω⟩
 rw[show p+1-1=p by omega]
 grind
theorem aht{g v x:Nat}(h:g*v>x):0<g:=by
 rcases yD g with h0|h0
 .subst h0;rw[Nat.zero_mul]at h;omega
 .exact h0
theorem abZ{g v r u:Nat}(h:((g:Nat):Int)*((v:Nat):Int)>((r:Nat):Int)*1000000000+((u:Nat):Int)):g*v>r*1000000000+u:=by
 have h1:((g*v:Nat):Int)>((r*1000000000+u:Nat):Int):=by rw[WR,Int.natCast_add,WR];exact h
 omega
theorem DU{U:List Nat}{k:Nat}(hk:k<=U.length)(h:val U<1000000000^k):val (U.take k)=val U:=by
 have h1:=yY hk;rcases yD (val (U.drop k))with h0|h0
 .rw[h0]at h1;omega
 .have:=Ie (1000000000^k) h0;omega
theorem J6{b:List Nat}{s n:Nat}(hb:CanL b)(hn:b.length=n)(h1:0<n)(hs:s=1000000000/(b.getD (n-1) 0+1)):s<1000000000:=by
 have hne:b.getD (n-1) 0≠0:=by
  rcases(Bg hb.1).1 hb with h|h
  .rw[h]at hn;simp at hn;omega
  .rw[hn]at h;exact h
 have:=Nat.div_le_div_left (a:=1000000000) (show 2<=b.getD (n-1) 0+1 by omega) ω;omega
open Go Go.RowKit
section
variable {P:Program} {ρ:Operand->Value} {w:World} {d:Option Tmp} {ty:TypeId} {pos:String} {af:Array Edge} {gd:Option (Nat × Bool)}
theorem Ru(g o j:Nat):Addr.add ⟨g,o,none⟩ j=⟨g,o+j,none⟩:=by
 unfold Addr.add;split
 .rename_i h;subst h;rfl
 .rfl
theorem lZ{t e:TypeId}{x y:Operand}{g o n c:Nat}{k:IntKind}{i:Int}{j:Nat}(ht:sliceOf P t=some (e,1))(hx:ρ x=.slice (some ⟨g,o,none⟩) n c)(hy:ρ y=.int k i)(hi:i=(j:Nat))(h1:j<n):
 (execOp ρ ⟨d,.indexAddr t x y,ty,pos,af,gd⟩).run P w=.ok (.value (.pointer (some ⟨g,o+j,none⟩))) w:=by
 have:=mZ (w:=w) (d:=d) (ty:=ty) (pos:=pos) (af:=af) (gd:=gd) (j:=j) ht hx rfl hy hi h1
 rwa [Ru]at this
theorem Jf{t e:TypeId}{x y z:Operand}{g n c:Nat}{k k':IntKind}{i i':Int}{j m:Nat}(ht:sliceOf P t=some (e,1))(hx:ρ x=.slice (some ⟨g,0,none⟩) n c)(hy:ρ y=.int k i)(hz:ρ z=.int k' i')(hi:i=(j:Nat))(hi':i'=(m:Nat))(h1:j<=m)(h2:m<=c)(h3:j<c):
 (execOp ρ ⟨d,.slice t x (some y) (some z) none,ty,pos,af,gd⟩).run P w=.ok (.value (.slice (some ⟨g,j,none⟩) (m-j) (c-j))) w:=by
 have:=JD (w:=w) (d:=d) (ty:=ty) (pos:=pos) (af:=af) (gd:=gd) (j:=j) (m:=m) ht hx hy hz hi hi' h1 h2;rw[if_neg ω]at this;simpa[Ru]using this
theorem yE{t e:TypeId}{x y z:Operand}{g n c:Nat}{k k':IntKind}{i i':Int}{j m q:Nat}(ht:sliceOf P t=some (e,1))(hx:ρ x=.slice (some ⟨g,0,none⟩) n c)(hy:ρ y=.int k i)(hz:ρ z=.int k' i')(hi:i=(j:Nat))(hi':i'=(m:Nat))(h1:j<=m)(h2:m<=c)(h3:j<c)(hq:m-j=q):
 (execOp ρ ⟨d,.slice t x (some y) (some z) none,ty,pos,af,gd⟩).run P w=.ok (.value (.slice (some ⟨g,j,none⟩) q (c-j))) w:=by
 subst hq;exact Jf ht hx hy hz hi hi' h1 h2 h3
end
theorem qm{L:List Nat}{R:List Value}{i:Nat}{v:Value}(h:i<L.length):i+(#[v]:Array Value).size<=((us L++R).toArray).size:=by simp;omega
theorem OwV.settle{e:TypeId}{So:List Bx}{v:Value}{l:List Nat}(h:OwV e So v (us l))(hl:0<l.length):∃g c R,So=[(g,e,(us l++R).toArray)]/\v=.slice (some ⟨g,0,none⟩) l.length c/\l.length<=c/\c<=maxLen:=by
 rcases h with⟨rfl,rfl,h⟩|⟨g,c,r,rfl,rfl,hc,hm⟩
 .have:l=[]:=by simpa[us]using h
  subst this;simp at hl
 .rw[uX]at hc;exact⟨g,c,r,rfl,by rw[uX],ω,hm⟩
theorem OwV.full(e:TypeId)(g:Nat)(l:List Nat)(n c:Nat)(hn:n=l.length)(hc:c=l.length)(hm:l.length<=1000000000000):OwV e [(g,e,(us l).toArray)] (.slice (some ⟨g,0,none⟩) n c) (us l):=by
 subst hn hc;have:=OwV.block e g (us l).length (us l) [] η (by rw[uX];unfold maxLen;omega);rw[EG,uX]at this;exact this
theorem UC.of_boxR{w:World}{X:List Nat}{g c n:Nat}{t:TypeId}{L:List Nat}{R:List Value}(hg:w.heap[g]?=some (.cells (us L++R).toArray t (0,0)))(hx:g ∉ X)(hc:c<=maxLen)(hn:n<=L.length)(hnc:n<=c):UC w X (some ⟨g,0,none⟩) c (L.take n):=by
 have h:=Cl.of_block hg hx n
 have e:((us L++R).toArray.toList).take n=us (L.take n):=by
  rw[Yf,List.take_append_of_le_length (by simpa using hn)];simp[us,List.map_take]
 refine⟨by simpa[e]using h,κ,by unfold maxLen at hc;omega⟩
end Go.Sw
namespace Go.Sw
theorem IY{a b q r:Int}(hb:0<b)(h:r+b*q=a)(h0:0<=r)(h1:r<b):a.fdiv b=q/\a.fmod b=r:=(Int.fdiv_fmod_unique hb).2 ⟨h,h0,h1⟩
theorem Jl{a b q r:Int}(hb:b<0)(h:r+b*q=a)(h0:b<r)(h1:r<=0):a.fdiv b=q/\a.fmod b=r:=(Int.fdiv_fmod_unique' hb).2 ⟨h,h0,h1⟩
theorem aai{a b:Int}{q r:Nat}(hb:b≠0)(h:a.natAbs=b.natAbs*q+r)(hr:r<b.natAbs)(hk:r=0\/(a<0↔b<0)):gW (decide (a<0) != decide (b<0)) q=a.fdiv b/\gW (decide (a<0)) r=a.fmod b:=by
 have h':(a.natAbs:Int)=(b.natAbs:Int)*q+r:=by exact_mod_cast h
 by_cases ha:a<0<;>by_cases hb0:b<0<;>simp[ha,hb0,gW]at hk ⊢
 .have:=Jl (a:=a) (b:=b) (q:=q) (r:=-(r:Int)) hb0 (by rw[show(a.natAbs:Int) = -a by omega,show(b.natAbs:Int) = -b by omega]at h';grind) ω ω;exact⟨this.1.symm,this.2.symm⟩
 .subst hk;have:=IY (a:=a) (b:=b) (q:=-(q:Int)) (r:=0) ω (by rw[show(a.natAbs:Int) = -a by omega,show(b.natAbs:Int)=b by omega]at h';grind) ω ω;simp;exact⟨this.1.symm,this.2.symm⟩
 .subst hk;have:=Jl (a:=a) (b:=b) (q:=-(q:Int)) (r:=0) hb0 (by rw[show(a.natAbs:Int)=a by omega,show(b.natAbs:Int) = -b by omega]at h';grind) ω ω;simp;exact⟨this.1.symm,this.2.symm⟩
 .have:=IY (a:=a) (b:=b) (q:=q) (r:=r) ω (by rw[show(a.natAbs:Int)=a by omega,show(b.natAbs:Int)=b by omega]at h';grind) ω ω;exact⟨this.1.symm,this.2.symm⟩
theorem aa7{a b:Int}{q r:Nat}(hb:b≠0)(h:a.natAbs=b.natAbs*q+r)(hr:r<b.natAbs)(h0:0<r)(hk:¬(a<0↔b<0)):gW (decide (a<0) != decide (b<0)) q-1=a.fdiv b/\gW (decide (a<0)) r+b=a.fmod b:=by
 have h':(a.natAbs:Int)=(b.natAbs:Int)*q+r:=by exact_mod_cast h
 by_cases ha:a<0<;>by_cases hb0:b<0<;>simp[ha,hb0,gW]at hk ⊢
 .have:=IY (a:=a) (b:=b) (q:=-(q:Int)-1) (r:=-(r:Int)+b) ω (by rw[show(a.natAbs:Int) = -a by omega,show(b.natAbs:Int)=b by omega]at h';grind) ω ω;exact⟨this.1.symm,this.2.symm⟩
 .have:=Jl (a:=a) (b:=b) (q:=-(q:Int)-1) (r:=(r:Int)+b) hb0 (by rw[show(a.natAbs:Int)=a by omega,show(b.natAbs:Int) = -b by omega]at h';grind) ω ω;exact⟨this.1.symm,this.2.symm⟩
theorem yL{m n u v:Nat}(h:Nat.gcd u v=m)(hn:n=u%v):Nat.gcd v n=m:=by
 subst hn;rw[<-h,Nat.gcd_comm v,<-Nat.gcd_rec,Nat.gcd_comm]
theorem LK{a:Int}{n:Nat}(h:0<=a):a.fdiv (n:Int)=((a.natAbs/n:Nat):Int):=by
 obtain⟨m,rfl⟩:=Int.eq_ofNat_of_zero_le h;simp[Yg]
theorem Gf{a x y:Nat}(hx:0<x)(hy:y=(x+a/x)/2):a<(y+1)*(y+1):=by
 have h1:a<x*(a/x+1):=Nat.lt_mul_div_succ a hx;generalize a/x=q at *;have h2:x+q+1<=2*(y+1):=ω
 have h3:(x+q+1)*(x+q+1)<=(2*(y+1))*(2*(y+1)):=MZ h2 h2;rcases Nat.le_total x (q+1)with h|h
 .obtain⟨d,hd⟩:∃d,q+1=x+d:=⟨q+1-x,ω⟩
  rw[show x+q+1=x+(q+1) by omega,hd]at h3;rw[hd]at h1;have h4:0<=d*d:=Au _
  grind
 .obtain⟨d,hd⟩:∃d,x=q+1+d:=⟨x-(q+1),ω⟩
  subst hd;have h4:0<=d*d:=Au _
  grind
theorem Oz{a x y:Nat}(hx:0<x)(hy:y=(x+a/x)/2)(h:x<=y):x*x<=a:=by
 have h1:x*(a/x)<=a:=Nat.mul_div_le a x;have h2:x<=a/x:=ω
 have h3:=Ie x h2;omega
theorem Og{a x y:Nat}(ha:0<a)(hx:0<x)(hy:y=(x+a/x)/2):0<y:=by
 rcases yD y with h|h
 .have h1:=Gf hx hy;rw[h]at h1;have h2:a=0:=ω
  omega
 .exact h
theorem Qg{n:Nat}(h:sz (n:Int)<=2):n<1000000000000000000:=by
 unfold sz at h;rw[uP]at h;have:=wF h;omega
theorem Ec(k:Nat):gW false (val (List.replicate k 0++[1]))=((1000000000^k:Nat):Int):=by
 show((val _:Nat):Int)=_;rw[val_append,vU];simp[val]
theorem OA(n:Nat):n<(1000000000^(((lim n).length+1)/2)+1)*(1000000000^(((lim n).length+1)/2)+1):=by
 have h1:=uI n;have h2:1000000000^(lim n).length<=1000000000^(((lim n).length+1)/2+((lim n).length+1)/2):=Gi ω ω;rw[Nat.pow_add]at h2;generalize 1000000000^(((lim n).length+1)/2)=p at *;have h3:p*p<=(p+1)*(p+1):=MZ ω ω;omega
theorem Ef{n x0:Nat}(h:x0=1000000000^(((lim n).length+1)/2))(hl:(lim n).length<=100000000):0<x0/\n<(x0+1)*(x0+1)/\sz (x0:Int)<=200000000:=by
 refine⟨by rw[h];exact Nat.pow_pos ω,by rw[h];exact OA n, ?_⟩;unfold sz;rw[uP];have:=kY (n:=x0) (k:=((lim n).length+1)/2+1) (by rw[h];exact Nat.pow_lt_pow_right ω ω);omega
theorem Lp(x q:Nat):(((x:Nat):Int)+((q:Nat):Int)).fdiv 2=(((x+q)/2:Nat):Int):=by
 rw[<-Int.natCast_add,Yg _ ω];rfl
open Go Go.RowKit
theorem eP{b:Bool}(h:(!b)=true):¬ b=true:=by cases b<;>simp_all
theorem eG{b:Bool}(h:(!b)=false):¬ ¬ b=true:=by cases b<;>simp_all
section
variable {P:Program} {Q:Exit->Act->World->Prop} {a:Act} {w:World} {K:Act->World->Prop} {N:Nat} {L:List (Nat × Value)} {w0:World} {S:List Bx} {X:List Nat}
variable {ty:TypeId} {pos:String} {af:Array Edge} {gd:Option (Nat × Bool)}
end
section
variable {P:Program} {ρ:Operand->Value} {w:World} {d:Option Tmp} {ty:TypeId} {pos:String} {af:Array Edge} {gd:Option (Nat × Bool)}
theorem acd{t e:TypeId}{s:Nat}{x y:Operand}{A:Option Addr}{ad:Addr}{n c:Nat}{k:IntKind}{i:Int}{j:Nat}(ht:sliceOf P t=some (e,s))(hx:ρ x=.slice A n c)(hA:A=some ad)(hy:ρ y=.int k i)(hi:i=(j:Nat))(h1:j<n):
 (execOp ρ ⟨d,.indexAddr t x y,ty,pos,af,gd⟩).run P w=.ok (.value (.pointer (some (ad.add (j*s))))) w:=by
 subst hA hi;have:=kJ (w:=w) (d:=d) (ty:=ty) (pos:=pos) (af:=af) (gd:=gd) ht hx hy ω ω;simpa using this
end
def AA:List (Act->World->Prop)->Nat->Act->World->Prop
 |[],_=>λ_ _=>False
 |φ::_,0=>φ
 |_::r,s+1=>AA r s
def AllN(f:Nat->Prop):List Nat->Prop
 |[]=>True
 |s::r=>f s/\AllN f r
theorem AllN.at_{f:Nat->Prop}:∀{T:List Nat},AllN f T->∀{s:Nat},s∈T->f s
 |[],_,s,h=>by cases h
 |t::r,k,s,h=>by
  rcases jA.1 h with rfl|h
  .exact k.1
  .exact AllN.at_ k.2 h
def AllP(f:(Act->World->Prop)->Prop):List (Act->World->Prop)->Prop
 |[]=>True
 |φ::r=>f φ/\AllP f r
theorem AllP.at_{f:(Act->World->Prop)->Prop}:∀{Ls:List (Act->World->Prop)},AllP f Ls->∀{s:Nat} {a:Act} {w:World},AA Ls s a w->f (AA Ls s)
 |[],_,s,a,w,h=>h.elim
 |φ::r,k,0,a,w,h=>k.1
 |φ::r,k,s+1,a,w,h=>AllP.at_ k.2 (s:=s) h
theorem IZ:∀{Ls:List (Act->World->Prop)} {s:Nat} {a:Act} {w:World},AA Ls s a w->s<Ls.length
 |[],s,a,w,h=>h.elim
 |φ::r,0,a,w,h=>by simp
 |φ::r,s+1,a,w,h=>by have:=IZ (Ls:=r) (s:=s) h;simp;omega
def canRun(l:List Oper)(acts done:List Nat)(i:Nat):Bool :=
 match l[i]? with
 |some o=>(acts.all λj=>!((pre o).elem j)||done.elem j)&&(acts.all λj=>match l[j]? with|some o'=>!((pre o').elem i) || !(done.elem j)|none=>true)
 |none=>false
def aaQ(l:List Oper)(acts:List Nat)(As:List (List Nat))(T:List (List Nat)):Bool :=
 (List.range l.length).all λi=>(List.range As.length).all λs=>!(canRun l acts (As.getD s []) i) ||(acts.elem i&&(As.getD s []).elem i) ||(T.getD i []).elem s
theorem Before.can{l:List Oper}{C:List (Option Value)}{acts done:List Nat}{i:Nat}{o:Oper}{a:Act}(h:Before l C acts done i o a)(ho:l[i]?=some o):canRun l acts done i=true:=by
 unfold canRun;rw[ho];simp only[gX,oH,Zv,Jh];refine⟨λj hj=>?_,λj hj=>?_⟩
 .cases hp:(pre o).elem j with
  |false=>left;rfl
  |true=>right;exact h.have_ j (by simpa using hj) hp
 .cases ho':l[j]? with
  |none=>rfl
  |some o' =>
   simp only[Zv,Jh];cases hp:(pre o').elem i with
   |false=>left;rfl
   |true=>right;exact h.not_ j (by simpa using hj) o' ho' hp
theorem OpsOk.mono{f g:Nat->Oper->Prop}:∀{r:List Oper} {k:Nat},(∀i o,r[i]?=some o->f (k+i) o->g (k+i) o)->OpsOk f k r->OpsOk g k r
 |[],_,_,_=>trivial
 |o::r,k,h,hk=>⟨h 0 o rfl hk.1,OpsOk.mono (λi o' ho' hf=>by
  have:=h (i+1) o' (by simpa using ho');rw[show k+(i+1)=k+1+i by omega]at this
  exact this hf) hk.2⟩
section
variable {P:Program} {Q:Exit->Act->World->Prop} {l:List Oper}
theorem II{id N:Nat}{a:Act}{w:World}{L0:List (Nat×Value)}(C:List (Option Value))(acts:List Nat)(As:List (List Nat))(T:List (List Nat))(full:Nat)(Ls:List (Act->World->Prop))(hm:P.follows .mixedOrders=true)(hac:Uc l=true)(hsl:QZ N l L0=true)
 (hacts:acts.all (λi=>Nat.blt i l.length)=true) (hT:aaQ l acts As T=true) (hlen:Nat.beq Ls.length As.length=true)
 (hfull:(List.range As.length).all (λs=>!(acts.all λi=>(As.getD s []).elem i)||Nat.beq s full)=true) (hF:Frm N a L0) (hA0:(acts.all λi=>!((As.getD 0 []).elem i))=true) (h0:AA Ls 0 a w.drew)
 (hput:AllP (λφ=>∀a w i o d v,l[i]?=some o->o.dst=some d->acts.elem i=false->φ a w->φ (a.put (some d) v) w) Ls)
 (hops:OpsOk (λi o =>
  (acts.elem i=false/\∃d v,o.dst=some d/\C[i]?=some (some v)/\∀s a w,AA Ls s a w->Frm N a L0->Before l C acts (As.getD s []) i o a->∀K:Act->World->Prop,K (a.put (some d) v) w->wpOp P l.toArray Q i K a w) \/
  (acts.elem i=false/\∃d v,o.dst=some d/\C[i]?=some (some v)/\AllN (λs=>∀a w,AA Ls s a w->Frm N a L0->Before l C acts (As.getD s []) i o a->∀K:Act->World->Prop,K (a.put (some d) v) w->wpOp P l.toArray Q i K a w) (T.getD i [])) \/
  (acts.elem i=true/\AllN (λs=>∀a w,AA Ls s a w->Frm N a L0->Before l C acts (As.getD s []) i o a ->
   wpOp P l.toArray Q i (λa' w'=>∃s',(acts.all λj=>(As.getD s' []).elem j ==(Nat.beq j i ||(As.getD s []).elem j))=true/\AA Ls s' a' w'/\∃v,a'=a.put o.dst v/\∀u,C[i]?=some (some u)->v=u) a w) (T.getD i []))) 0 l)
 (hend:∀a w,AA Ls full a w->Frm N a L0->(∀(i:Nat) (o:Oper) (d:Nat) (v:Value),l[i]?=some o->o.dst=some d->C[i]?=some (some v)->a.tmps.getD d undef=v)->Q .normal a w):(Code.region id l.toArray true).wp P Q a w:=by
 have hlen':Ls.length=As.length:=jX hlen
 have hin:∀{i:Nat} {o:Oper} {s:Nat} {a:Act} {w:World},l[i]?=some o->AA Ls s a w->Before l C acts (As.getD s []) i o a->(acts.elem i&&(As.getD s []).elem i)=false->s∈T.getD i []:=by
  intro i o s a w ho hs hb hd;have hi:i<l.length:=(qG.1 ho).1;have hslt:s<As.length:=by rw[<-hlen'];exact IZ hs
  have h1:=oH.1 (oH.1 hT i (by simpa using hi)) s (by simpa using hslt);rw[hb.can ho,hd]at h1;simpa using h1
 refine drawn C acts (λs=>As.getD s []) (AA Ls) hm hac hsl hacts hF ⟨hA0,h0⟩ (λs a w i o d v ho hd hna hΦ=>(hput.at_ hΦ) a w i o d v ho hd hna hΦ) ?_ ?_
 .refine OpsOk.mono (λi o ho hk=>?_) hops;rw[uY]at hk ⊢;rcases hk with h|⟨h1,d,v,h2,h3,h4⟩|⟨h1,h2⟩
  .exact .inl h
  .refine .inl ⟨h1,d,v,h2,h3,λs a w hs hF hb=>?_⟩;exact h4.at_ (hin ho hs hb (by rw[h1];rfl)) a w hs hF hb
  .refine .inr ⟨h1,λs a w hs hF hb hd=>?_⟩;exact h2.at_ (hin ho hs hb (by rw[hd];simp)) a w hs hF hb
 .intro s a w hall hs hF hC;have hslt:s<As.length:=by rw[<-hlen'];exact IZ hs
  have h1:=oH.1 hfull s (by simpa using hslt);rw[hall]at h1;have:s=full:=by simpa using h1
  subst this;exact hend a w hs hF hC
end
end Go.Sw
namespace Go.Sw
theorem TG{a:Int}:qj a=0↔a=0:=by unfold qj;split<;>(try split)<;>omega
open Go Go.RowKit
section
variable {P:Program} {ρ:Operand->Value} {w:World} {d:Option Tmp} {ty:TypeId} {pos:String} {af:Array Edge} {gd:Option (Nat × Bool)}
def bt(s:ByteArray)(i:Nat):Nat:=(s.data.getD i 0).toNat
end
end Go.Sw
namespace Go.Sw
theorem NQ(x R:Nat)(hx:x<1000000000):aG ([x]++lim R)=lim (x+1000000000*R):=by
 have h:Lb ([x]++lim R):=(Lb.cons hx Lb.nil).append (bJ R);rw[<-kQ _ h];simp[val,aX]
theorem abn{R n:Nat}(hn:1<=n)(hR:R<1000000000^(n+1)):∃low,low<1000000000^(n-1)/\R=low+1000000000^(n-1)*((lim R).getD n 0*1000000000+(lim R).getD (n-1) 0):=by
 obtain⟨m,rfl⟩:∃m,n=m+1:=⟨n-1,ω⟩
 refine⟨val ((lim R).take m), ?_, ?_⟩
 .rw[show m+1-1=m by omega];exact sK (bJ R) m
 .have h1:=kY hR;rw[show m+1-1=m by omega];have h2:R=val ((lim R).take (m+1+1)):=by rw[cZ ω,aX]
  conv=>lhs;rw[h2,bY,bY,EU]
  grind
theorem Zh{R V n top:Nat}{v:List Nat}(hv:v=lim V)(hn:v.length=n)(h1:1<=n)(ht:top=v.getD (n-1) 0)(hR:R<1000000000*V)(h0:0<top):
 R<(((lim R).getD n 0*1000000000+(lim R).getD (n-1) 0)/top+1)*V/\(lim R).getD n 0*1000000000+(lim R).getD (n-1) 0<1000000000*1000000000:=by
 subst hv;have hVl:=uI V;rw[hn]at hVl;have hR2:R<1000000000^(n+1):=by rw[EU];omega
 obtain⟨low,hl,he⟩:=abn h1 hR2;obtain⟨m,rfl⟩:∃m,n=m+1:=⟨n-1,ω⟩
 rw[show m+1-1=m by omega]at *
 have hVt:V=val ((lim V).take m)+1000000000^m*(lim V).getD m 0:=by
  conv=>lhs;rw[<-aX V,<-cZ (l:=lim V) (k:=m+1) ω,bY]
 rw[<-ht]at hVt;have hvl:=sK (bJ V) m;have hg1:=(bJ R).getD (m+1);have hg2:=(bJ R).getD m;refine⟨?_,ω⟩;have:=Yp (1000000000^m) top ((lim R).getD (m+1) 0*1000000000+(lim R).getD m 0) _ (val ((lim V).take m)) low h0 hl rfl;rw[<-he,<-hVt]at this;exact this
theorem Ui{R V:Nat}(hR:R<1000000000*V):R<(999999999+1)*V:=hR
theorem Nk{u o:List Nat}{V R R2 j d:Nat}(hj:0<j)(hu:j<=u.length)(ho:j<=o.length)(h:val (u.drop j)=V*val (o.drop j)+R)(hR2:R2=u.getD (j-1) 0+1000000000*R)(hd:V*d<=R2):
 val (u.drop (j-1))=V*val ((o.set (j-1) d).drop (j-1))+(R2-V*d):=by
 rw[ru hj hu,sU hj ho,h];obtain⟨t,rfl⟩:∃t,R2=V*d+t:=⟨R2-V*d,ω⟩
 rw[show V*d+t-V*d=t by omega]
 grind
theorem V5{R2 V d:Nat}(h:R2<(d+1)*V)(hd:V*d<=R2):R2-V*d<V:=by
 rw[Nat.add_mul,Nat.one_mul,Gx]at h;omega
theorem Nq{x R V:Nat}(hx:x<1000000000)(h:R<V):x+1000000000*R<1000000000*V:=ω
theorem TA{V d:Nat}(hd:0<d):V*d-V=V*(d-1):=by
 obtain⟨e,rfl⟩:∃e,d=e+1:=⟨d-1,ω⟩
 rw[show e+1-1=e by omega,EN,Nat.mul_one];omega
theorem Ur{a b s q R r rr:Nat}(hs:0<s)(h:a*s=b*s*q+R)(hlt:R<b*s)(hr:R=s*r+rr)(hrr:rr<s):q=a/b/\r=a%b:=by
 have:=Rl hs h hlt hr hrr;have hb:0<b:=ω
 constructor
 .rw[this.1,Nat.mul_add_div hb,Nat.div_eq_of_lt this.2];omega
 .rw[this.1,Nat.mul_add_mod,YT this.2]
theorem uj{n:Nat}(h:(lim n).length<=2):n<1000000000000000000:=by
 have:=wF h;omega
theorem xw{a s:Nat}(hs:s<1000000000):(lim (a*s)).length<=(lim a).length+1:=by
 refine kY ?_;have h1:=uI a;rw[EU];rcases yD s with h|h
 .subst h;simp;exact Nat.pow_pos ω
 .exact Nat.mul_lt_mul'' h1 hs
theorem yB{x y:Nat}:iy x y>0↔y<x:=by unfold iy;split<;>(try split)<;>omega
theorem KL{R V:Nat}(h:R<1000000000*V):(lim R).length<=(lim V).length+1:=by
 refine kY ?_;have:=uI V;rw[EU];omega
theorem Wh{x y:Int}{n:Nat}(hx:sz x<=n)(hy:sz y<=n):sz ((Nat.gcd x.natAbs y.natAbs:Nat):Int)<=n:=by
 rcases yD x.natAbs with h|h
 .rw[h,Nat.gcd_zero_left];exact fZ (ku (by rw[uP];exact jg _)) hy
 .exact fZ (ku (by rw[uP];exact Nat.gcd_le_left _ h)) hx
open Go Go.RowKit
section
variable {P:Program} {Q:Exit->Act->World->Prop} {a:Act} {w:World} {K:Act->World->Prop} {N:Nat} {L:List (Nat × Value)} {w0:World} {S:List Bx} {X:List Nat}
variable {ty:TypeId} {pos:String} {af:Array Edge} {gd:Option (Nat × Bool)}
end
section
variable {P:Program} {O:Array Oper} {N:Nat} {w:World} {ops rest r:List Oper} {L L':List (Nat × Value)} {Q:Exit->Act->World->Prop} {a:Act}
variable {d:Nat} {v:Value} {ty:TypeId} {pos:String} {af:Array Edge} {op:Op}
def PR(P:Program)(O:Array Oper)(N:Nat)(w:World)(ops:List Oper)(L:List (Nat×Value))(rest:List Oper)(L':List (Nat×Value)):Prop :=
 ∀(Q:Exit->Act->World->Prop) (a:Act),Frm N a L->(∀a',Frm N a' L'->wpList P O Q rest a' w)->wpList P O Q ops a w
theorem pr(hF:Frm N a L)(h:PR P O N w ops L rest L')(k:∀a',Frm N a' L'->wpList P O Q rest a' w):wpList P O Q ops a w:=h Q a hF k
theorem PR.nil:PR P O N w ops L ops L:=λ_ a hF k=>k a hF
theorem pg(hr:∀a,Frm N a L->(execOp a.eval ⟨some d,op,ty,pos,af,none⟩).run P w=.ok (.value v) w)(k:PR P O N w rest ((d,v)::L) r L')(hlt:Nat.blt d N=true:=by rfl):PR P O N w (⟨some d,op,ty,pos,af,none⟩::rest) L r L' :=
 λQ a hF kk=>iW hF rfl rfl hlt (hr a hF) λa' hF'=>k Q a' hF' kk
theorem pgg{j:Nat}{b:Bool}(hr:∀a,Frm N a L->(execOp a.eval ⟨some d,op,ty,pos,af,some (j,b)⟩).run P w=.ok (.value v) w)(k:PR P O N w rest ((d,v)::L) r L')(hs:said O L j=some b:=by rfl)(hlt:Nat.blt d N=true:=by rfl):PR P O N w (⟨some d,op,ty,pos,af,some (j,b)⟩::rest) L r L' :=
 λQ a hF kk=>Pv hF rfl hs rfl hlt (hr a hF) λa' hF'=>k Q a' hF' kk
theorem pm{x:Operand}(hx:ev L x=some v)(k:PR P O N w rest ((d,v)::L) r L')(hlt:Nat.blt d N=true:=by rfl):PR P O N w (⟨some d,.move x,ty,pos,af,none⟩::rest) L r L' :=
 pg (λa hF=>bT (hF.ev hx)) k hlt
theorem pa{x:Operand}(hx:ev L x=some v)(k:PR P O N w rest ((d,v)::L) r L')(hlt:Nat.blt d N=true:=by rfl):PR P O N w (⟨some d,.assign x,ty,pos,af,none⟩::rest) L r L' :=
 pg (λa hF=>jF (hF.ev hx)) k hlt
theorem px{x:Operand}{vs:Array Value}{i:Nat}(hx:ev L x=some (.tuple vs))(hv:vs[i]?=some v)(k:PR P O N w rest ((d,v)::L) r L')(hlt:Nat.blt d N=true:=by rfl):PR P O N w (⟨some d,.extract x i,ty,pos,af,none⟩::rest) L r L' :=
 pg (λa hF=>CV (hF.ev hx) hv) k hlt
theorem psk{j:Nat}{b c:Bool}(hs:said O L j=some c)(hne:(c == b)=false)(k:PR P O N w rest ((d,undef)::L) r L')(hlt:Nat.blt d N=true:=by rfl):PR P O N w (⟨some d,op,ty,pos,af,some (j,b)⟩::rest) L r L' :=
 λQ a hF kk=>Qe hF rfl rfl hlt hs hne λa' hF'=>k Q a' hF' kk
end
theorem UC.go{w w':World}{X X':List Nat}{A:Option Addr}{c:Nat}{l:List Nat}(h:UC w X A c l)(e:Ext w X w' X':=by repeat(first|assumption|exact Ext.refl _ _|refine Ext.trans ξ ?_)):UC w' X' A c l:=h.ext e
theorem Ext.go{w w':World}{X X':List Nat}(e:Ext w X w' X':=by repeat(first|assumption|exact Ext.refl _ _|refine Ext.trans ξ ?_)):Ext w X w' X':=e
theorem jY{a:Int}(h1 : -9223372036854775808<=a:=by omega)(h2:a<=9223372036854775807:=by omega):IntKind.i64.wrap a=a:=bG h1 h2
theorem oJ{a:Int}(h1:0<=a:=by omega)(h2:a<=18446744073709551615:=by omega):IntKind.u64.wrap a=a:=wu64 h1 h2
theorem Hl{a:Int}(h1:0<=a:=by omega)(h2:a<=4294967295:=by omega):IntKind.u32.wrap a=a:=dO h1 h2
def acG:List (Nat×Value)->List (Nat×Value)->Prop
 |[],_=>True
 |(t,v)::r,L=>lk t L=some v/\acG r L
theorem Frm.all{N:Nat}{a:Act}{L:List (Nat×Value)}(hF:Frm N a L):∀{L':List (Nat×Value)},acG L' L->Frm N a L'
 |[],_=>hF.nil
 |(t,v)::r,h=>hF.take (hF.all h.2) h.1
section
variable (P:Program) (Q:Exit->Act->World->Prop) (l:List Oper) (N:Nat) (acts:List Nat) (L0:List (Nat × Value))
end
end Go.Sw
