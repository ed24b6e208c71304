/-
  Rules of the abstract run, plain laws, and what functions answer, for the law TopMeetings.
  Conditions: none.
-/
import Derived.Test.YtdpkjhnfklkkjaaGreatM3
set_option linter.all false
set_option maxHeartbeats 16000000
namespace Go.Sw
open Go Go.RowKit
section
variable {P:Program} [Wld P] [Kp] [Gr] {τ:Tab} {N:Nat} {w0:World} {X0:List Nat} {S:List Bx} {M:MM} {a:Act} {w:World} {e:Env} {b:aZ}
variable {d:Option Nat} {ty:TypeId} {pos:String} {af:Array Edge} {gd:Option (Nat × Bool)} {k:AV->aZ->Prop}
theorem WW{k:Nat}{cs:List Cell}{g:Nat}[WOk P w0](hτ:dQ P τ=true)(h:Sta N w0 X0 S M a w e b)(ht:ld (GK+g) τ=some (.glob k cs))(X:List Nat):∃us,Mem w ⟨g,0,none⟩ us/\RepL w X us cs:=by
 have h1:=bU hτ ht;simp only[iQ]at h1;split at h1
 .rename_i g' us hg;simp only[gX]at h1;have h2:=jX h1.1;have h3:g'=g:=ω
  subst h3;exact⟨us,λj u hu=>Wld.glob (h.ms.st.wok (P:=P)) g' us (Gt hg) j u hu,nP w X h1.2⟩
 .cases h1
theorem RepO.take{X:List Nat}{us:List Value}{cs:List Cell}(h:RepO w X M us cs)(n:Nat):RepO w X M (us.take n) (cs.take n) :=
 ⟨by simp[h.len],λj u c a b=>by
  rw[Pz]at a b;split at a
  .rename_i hj;rw[if_pos hj]at b;exact h.get j u c a b
  .cases a⟩
theorem RepO.drop{X:List Nat}{us:List Value}{cs:List Cell}(h:RepO w X M us cs)(n:Nat):RepO w X M (us.drop n) (cs.drop n) :=
 ⟨by simp[h.len],λj u c a b=>h.get (n+j) u c (by rw[Pj]at a;exact a) (by rw[Pj]at b;exact b)⟩
theorem RepO.append{X:List Nat}{us vs:List Value}{cs ds:List Cell}(h:RepO w X M us cs)(k:RepO w X M vs ds):RepO w X M (us++vs) (cs++ds) :=
 ⟨by simp[h.len,k.len],λj u c a b=>by
  by_cases hj:j<us.length
  .rw[UA hj]at a;rw[UA (by rw[<-h.len];exact hj)]at b;exact h.get j u c a b
  .rw[ZA ω]at a;rw[ZA (by rw[<-h.len];omega),<-h.len]at b
   exact k.get _ u c a b⟩
theorem RepO1.v{X:List Nat}{u:Value}{c:Cell}(h:RepO1 w X M u c):RepV w X M u (avO c):=by
 cases h with
 |c h=>cases h<;>exact .d (.c (by first|exact .v _ ξ|exact .sl _ _ _ _ _ _ ξ ξ ξ ξ ξ ξ ξ|exact .p _ _ _ _ ξ ξ ξ|exact .fn _ _ _ ξ ξ))
 |ob h _=>exact h.v
theorem rowT{t:TypeId}{n:Nat}{fs:List (Nat×Nat×Bool)}{z:List Cell}(h:iQ P t (.row n fs z)=true):∃fl,P.underlying t=some (.struct fl)/\pR P fl.toList fs=true:=by
 simp only[iQ,gX]at h;have h2:=h.2;split at h2
 .rename_i fl hu;exact⟨fl,hu,h2⟩
 .cases h2
theorem nT{t:TypeId}{n i:Nat}{fs:List (Nat×Nat×Bool)}{z:List Cell}{x:Nat×Nat×Bool}(h:iQ P t (.row n fs z)=true)(hi:fs[i]?=some x):uK P t i=some x.1:=by
 obtain⟨fl,hu,hf⟩:=rowT h;obtain⟨f,h1,h2⟩:=zU hf hi;simp only[KF,gX,decide_eq_true_eq]at h2;unfold uK;rw[hu];have h1':fl[i]?=some f:=by simpa using h1
 simp only[h1',h2.1.1.2];simp[h2.1.2,h2.1.1.1];cases hq:P.info? f.type with
 |none=>have:=h2.1.1.2;simp[hq]at this
 |some y=>simp
theorem E8{t:TypeId}{x:Operand}{i:Nat}(hτ:dQ P τ=true)(h:Sta N w0 X0 S M a w e b)(hk:bZ (Den P) τ ⟨d,.fieldAddr t x i,ty,pos,af,gd⟩ e b k):Good P w0 X0 S M a w ⟨d,.fieldAddr t x i,ty,pos,af,gd⟩ k:=by
 unfold bZ at hk;simp only at hk;split at hk
 .rename_i n fs z ht;have htt:=bU hτ ht;split at hk
  .rename_i off s1 s2 j o' hi hx;obtain⟨m,g,hm,hv,hg,hxe⟩:=(h.ev hx).ptr_;exact .val h.ms hk (gU (nT htt hi) hxe) (.ptr hm hv hg)
  .rename_i off s1 s2 c n' j o' hi hx;have hx0:=h.ev hx
   have key:∀(s:Nat) (es:List (List Cell)) (y:Bk),ld c b=some y->((∃T,y=.grow T s es)\/y=.froz s es)->Obl (n'=es.length) (k (.pe c n' j (o'+off)) [])->Good P w0 X0 S M a w ⟨d,.fieldAddr t x i,ty,pos,af,gd⟩ k:=by
    rintro s es y hb hy ⟨hl,hkk⟩;obtain⟨m',hm',h1,h2,h3,h4⟩:=h.elems hb hy;generalize hu:a.eval x=u at hx0;cases hx0 with
    |d hd=>cases hd
    |pe hm hv hle hh =>
     rw[hm]at hm';cases hm';obtain⟨g,hg,rfl⟩:=hh ω;refine .val h.ms hkk (gU (nT htt hi) hu) (.pe hm hv hle λhn=>⟨g,hg, ?_⟩);rw[Nat.add_assoc]
   split at hk
   .rename_i T s es hb;exact key s es _ hb (.inl ⟨T,rfl⟩) hk
   .rename_i s es hb;exact key s es _ hb (.inr rfl) hk
   .cases hk
  .rename_i off s1 s2 cs hi hx;obtain⟨g,o,us,hxe,hc,hl⟩:=(h.ev hx).rd_;rw[iR]at hk;refine .val h.ms hk (gU (nT htt hi) hxe) ?_;have:=hc.drop off;simp only[vI,Addr.add_lit]at this;exact .rd this (hl.drop off)
  .rename_i off s1 s2 cs hi hx;obtain⟨g,o,us,hxe,hc,hl⟩:=(h.ev hx).p_;rw[iR]at hk;refine .val h.ms hk (gU (nT htt hi) hxe) ?_;have:=hc.drop off;simp only[vI,Addr.add_lit]at this;exact .rd this (hl.drop off)
  .rename_i off s1 s2 g o' hi hx;exact .val h.ms hk (gU (nT htt hi) (h.ev hx).gp_) .gp
  .cases hk
 .cases hk
theorem Ir{t:TypeId}{n:Nat}(h:isRow P t n=true)(cs:Array Value)(off:Nat):(part t cs off).run P w=.ok (.agg (cs.extract off (off+n))) w:=by
 simp[part,qJ h,oV h]
theorem IJ{t:TypeId}(h:jq P t=true)(cs:Array Value)(off:Nat){v:Value}(hv:cs[off]?=some v):(part t cs off).run P w=.ok v w:=by
 simp[part,qK h,hv]
theorem TY{t:TypeId}{x:Operand}{i:Nat}(hτ:dQ P τ=true)(h:Sta N w0 X0 S M a w e b)(hk:bZ (Den P) τ ⟨d,.field t x i,ty,pos,af,gd⟩ e b k):Good P w0 X0 S M a w ⟨d,.field t x i,ty,pos,af,gd⟩ k:=by
 unfold bZ at hk;simp only at hk;split at hk
 .rename_i n fs z ht;have htt:=bU hτ ht;split at hk
  .rename_i off s ag cs hi hx;obtain⟨us,hxe,hl⟩:=(h.ev hx).agg_;obtain⟨fl,hu,hf⟩:=rowT htt;obtain⟨f,h1,h2⟩:=zU hf hi;simp only[KF,gX,decide_eq_true_eq]at h2;have h1':fl[i]?=some f:=by simpa using h1
   have hrun:(execOp a.eval ⟨d,.field t x i,ty,pos,af,gd⟩).run P w=((do pure (Next.value (<-part f.type us.toArray f.offset))):Sem Next).run P w:=by
    simp[execOp,hxe,Instr.field,run_underlying hu,h1',asAgg]
   cases hr:takeN s (dU off cs)with
   |none=>simp[hr]at hk
   |some l =>
    simp only[hr]at hk;rw[iR]at hr;obtain⟨rfl,hn⟩:=oO hr;cases ag with
    |true =>
     simp only at hk;have h3:isRow P f.type s=true:=by simpa using h2.2
     refine .val h.ms hk (u:=.agg ((us.drop off).take s).toArray) ?_ (.d (.agg ((hl.drop off).take s)));rw[hrun,Sem.run_bind,Ir h3];simp only[Result.andThen_ok,Sem.run_pure];congr 3;apply Jv;simp[h2.1.1.1,List.take_drop]
    |false =>
     simp only at hk;have h3:jq P f.type=true:=by simpa using h2.2
     split at hk
     .rename_i c r hc
      have hcc:cs[off]?=some c:=by
       have:=congrArg (λl=>l[0]?) hc;simp only[Pz,Pj]at this;split at this
       .simpa using this
       .simp at this
      have hlt:off<us.length:=by rw[hl.len];exact(qG.1 hcc).1
      have hu':us[off]?=some us[off]:=pW hlt;refine .val h.ms hk (u:=us[off]) ?_ (.d (.c (hl.get off _ _ hu' hcc)));rw[hrun,Sem.run_bind,IJ h3 (v:=us[off]) _ _ (by rw[h2.1.1.1];simpa using hu')];simp
     .cases hk
  .cases hk
 .cases hk
theorem yC{t:TypeId}{x y:Operand}{n s:Nat}{one:Bool}{z:List Cell}{g o':Nat}{ki:IntKind}{i:Nat}(ht:iQ P t (.arr n s one z)=true)(hxe:a.eval x=.pointer (some ⟨g,o',none⟩))(hye:a.eval y=.int ki (.ofNat i))(hlt:i<n):
 (execOp a.eval ⟨d,.indexAddr t x y,ty,pos,af,gd⟩).run P w=.ok (.value (.pointer (some ⟨g,o'+i*s,none⟩))) w:=by
 simp only[iQ,gX,decide_eq_true_eq]at ht;have h2:=ht.2;split at h2
 .rename_i mm ee hu;simp only[gX,decide_eq_true_eq]at h2;obtain⟨rfl,h3⟩:=h2;cases hq:P.info? ee with
  |none=>simp[hq]at h3
  |some y =>
   have hsz:y.size=s:=by simpa[hq]using h3
   simp[execOp,hxe,hye,Instr.indexAt,asIntOf,run_underlying hu,Instr.sureAddr,hlt,sizeOf,typeInfo,hq,hsz,Addr.add_lit]
 .cases h2
theorem Et{t:TypeId}{x y:Operand}(hτ:dQ P τ=true)(h:Sta N w0 X0 S M a w e b)(hk:bZ (Den P) τ ⟨d,.indexAddr t x y,ty,pos,af,gd⟩ e b k):Good P w0 X0 S M a w ⟨d,.indexAddr t x y,ty,pos,af,gd⟩ k:=by
 unfold bZ at hk;simp only at hk;split at hk
 .rename_i e' s by_ z s' es ki i ht hx hy;split at hk
  .rename_i hs;have hs':=jX hs;subst hs';obtain⟨j,cs,rfl,he,hkk⟩:=hk;have htt:=bU hτ ht;simp only[iQ,gX,decide_eq_true_eq]at htt;have hs0:0<s:=by have:=htt.1.1.1.2;omega
   have hsl:=htt.1.1.2;obtain⟨A,cap,uss,ha,hcap,hmx,hcl,hS⟩:=RepS.of_sl (h.ev hx).sl_;have hjl:j<es.length:=(qG.1 he).1;have hlt:j<uss.length:=by rw[hS.len];exact hjl
   have huj:uss[j]?=some uss[j]:=pW hlt;have hsz:=hS.sz _ (qbJ hlt);have hl0:0<(uss[j]).length:=ω
   have hne:uss.flatten≠[]:=by
    have:=iZ hS.sz huj 0 hs0;intro hf;rw[hf]at this;rw[pW hl0]at this;simp at this
   obtain⟨ad,rfl,hb1,hb2,hc⟩:=hcl hne
   have hspot:ad=⟨ad.block,ad.off,none⟩:=by
    have h0:0<uss.flatten.length:=List.length_pos_iff.2 hne;have:=hc 0 _ (pW h0);have hz:ad.add 0=ad:=by simp[Addr.add]
    rw[hz]at this;unfold World.cell? at this;cases hsp:ad.spot with
    |none=>cases ad;simp_all
    |some q=>split at this<;>simp[hsp]at this
   refine .val h.ms hkk (kJ hsl (ha) (h.ev hy).v_ ω ω) ?_;rw[hspot];simp only[dI,Addr.add_lit];refine .rd (us:=uss[j]) (λ_=>⟨_,rfl,hb1,hb2,λq u hu=>?_⟩) (hS.get j _ _ huj he);have hqs:q<s:=by rw[<-hsz];exact(qG.1 hu).1
   have:=hc _ u ((iZ hS.sz huj q hqs).trans hu);rw[hspot]at this;rw[Addr.add_lit]at this ⊢
   rwa [Nat.add_assoc]
  .cases hk
 .rename_i e' s by_ z c n ki i ht hx hy;have htt:=bU hτ ht;simp only[iQ,gX,decide_eq_true_eq]at htt;have hsl:=htt.1.1.2;obtain⟨m,hm,hv,hn⟩:=(h.ev hx).gs_;split at hk
  .rename_i T s' es hb;split at hk
   .rename_i hs;have hs':=jX hs;subst hs';obtain⟨hl,⟨j,cs,rfl,he,hkk⟩⟩:=hk;obtain⟨m',hm',h1,h2,h3,h4⟩:=h.elems hb (.inl ⟨T,rfl⟩);rw[hm]at hm';cases hm';obtain⟨g,us,hg,hmem,hR⟩:=h4 j cs he;have hxe:=hn ω;have hjl:j<es.length:=(qG.1 he).1;unfold hdr at hxe;rw[hg]at hxe;have:=kJ (w:=w) (d:=d) (ty:=ty) (pos:=pos) (af:=af) (gd:=gd) hsl hxe (h.ev hy).v_ ω ω;refine .val h.ms hkk this ?_;simp only[dI,Addr.add_lit];exact .pe hm hv ω λ_=>⟨g,hg,by rw[h2.1];simp⟩
   .cases hk
  .rename_i s' es hb;split at hk
   .rename_i hs;have hs':=jX hs;subst hs';obtain⟨hl,⟨j,cs,rfl,he,hkk⟩⟩:=hk;obtain⟨m',hm',h1,h2,h3,hC⟩:=h.box c _ hb;rw[hm]at hm';cases hm';have hxe:=hn ω;have hjl:j<es.length:=(qG.1 he).1;obtain⟨A,cap,uss,ha,hcap,hmx,hcl,hS⟩:=RepS.of_sl hC;have hlt:j<uss.length:=by rw[hS.len];exact hjl
    have huj:uss[j]?=some uss[j]:=pW hlt;have hsz:=hS.sz _ (qbJ hlt);have hl0:0<(uss[j]).length:=by rw[hsz];exact h2.2
    have hne:uss.flatten≠[]:=by
     have:=iZ hS.sz huj 0 h2.2;intro hf;rw[hf]at this;rw[pW hl0]at this;simp at this
    obtain⟨ad,rfl,hb1,hb2,hc⟩:=hcl hne;rw[ha]at hxe
    have had:∃g,ad=⟨g,0,none⟩:=by
     unfold hdr at ha;injection ha with ha1 _ _
     cases hgg:m.g with
     |none=>rw[hgg]at ha1;cases ha1
     |some g=>rw[hgg]at ha1;cases ha1;exact⟨g,rfl⟩
    obtain⟨g,rfl⟩:=had;refine .val h.ms hkk (kJ hsl hxe (h.ev hy).v_ ω ω) ?_;simp only[dI,Addr.add_lit];refine .rd (us:=uss[j]) (λ_=>⟨_,rfl,hb1,hb2,λq u hu=>?_⟩) (hS.get j _ _ huj he);have hqs:q<s:=by rw[<-hsz];exact(qG.1 hu).1
    have:=hc _ u ((iZ hS.sz huj q hqs).trans hu);rw[Addr.add_lit]at this ⊢
    rwa [Nat.add_assoc]
   .cases hk
  .cases hk
 .rename_i n s one z c o' ki i ht hx hy;have htt:=bU hτ ht;simp only[iQ,gX,decide_eq_true_eq]at htt;split at hk
  .rename_i hlt;have hlt':i<n:=by simpa[I7]using hlt
   obtain⟨m,g,hm,hv,hg,hxe⟩:=(h.ev hx).ptr_;have hye:=(h.ev hy).v_;refine .val h.ms hk (u:=.pointer (some ⟨g,o'+i*s,none⟩)) ?_ (.ptr hm hv hg);have h2:=htt.2;split at h2
   .rename_i mm ee hu;simp only[gX,decide_eq_true_eq]at h2;obtain⟨rfl,h3⟩:=h2;cases hq:P.info? ee with
    |none=>simp[hq]at h3
    |some y =>
     have hsz:y.size=s:=by simpa[hq]using h3
     simp[execOp,hxe,hye,Instr.indexAt,asIntOf,run_underlying hu,Instr.sureAddr,hlt',sizeOf,typeInfo,hq,hsz,Addr.add_lit]
   .cases h2
  .cases hk
 .rename_i n s one z g o' ki i ht hx hy;split at hk
  .rename_i hlt;exact .val h.ms hk (yC (bU hτ ht) (h.ev hx).gp_ (h.ev hy).v_ (by simpa[I7]using hlt)) .gp
  .cases hk
 .rename_i n s one z cs ki i ht hx hy;split at hk
  .rename_i hlt;obtain⟨g,o,us,hxe,hc,hl⟩:=(h.ev hx).rd_;rw[iR]at hk;refine .val h.ms hk (yC (bU hτ ht) hxe (h.ev hy).v_ (by simpa[I7]using hlt)) ?_;have:=hc.drop (i*s);simp only[vI,Addr.add_lit]at this;exact .rd this (hl.drop _)
  .cases hk
 .rename_i n s one z cs ki i ht hx hy;split at hk
  .rename_i hlt;obtain⟨g,o,us,hxe,hc,hl⟩:=(h.ev hx).p_;rw[iR]at hk;refine .val h.ms hk (yC (bU hτ ht) hxe (h.ev hy).v_ (by simpa[I7]using hlt)) ?_;have:=hc.drop (i*s);simp only[vI,Addr.add_lit]at this;exact .rd this (hl.drop _)
  .cases hk
 .rename_i n s one z c m j o' ki i ht hx hy;have hx0:=h.ev hx
  have key:∀(s':Nat) (es:List (List Cell)) (yy:Bk),i<n->ld c b=some yy->((∃T,yy=.grow T s' es)\/yy=.froz s' es)->Obl (m=es.length) (k (.pe c m j (o'+i*s)) [])->Good P w0 X0 S M a w ⟨d,.indexAddr t x y,ty,pos,af,gd⟩ k:=by
   rintro s' es y0 hlt hb hy0 ⟨hl,hkk⟩;obtain⟨m',hm',h1,h2,h3,h4⟩:=h.elems hb hy0;generalize hu:a.eval x=u at hx0;cases hx0 with
   |d hd=>cases hd
   |pe hm hv hle hh =>
    rw[hm]at hm';cases hm';obtain⟨g,hg,rfl⟩:=hh ω;refine .val h.ms hkk (yC (bU hτ ht) hu (h.ev hy).v_ hlt) (.pe hm hv hle λhn=>⟨g,hg, ?_⟩);rw[Nat.add_assoc]
  split at hk
  .rename_i T s' es hlt hb;exact key s' es _ (by simpa[I7]using hlt) hb (.inl ⟨T,rfl⟩) hk
  .rename_i s' es hlt hb;exact key s' es _ (by simpa[I7]using hlt) hb (.inr rfl) hk
  .cases hk
 .cases hk
end
theorem qY{α:Type}{t:Nat}{x:α}:∀(l:List (Nat×α)) (i:Nat),ld i (up t x l)=if i=t then some x else ld i l
 |[],i=>by
  simp only[up,ld]
  by_cases h:i=t
  .subst h;simp
  .rw[gI (λe=>h e.symm),if_neg h];rfl
 |(s,v)::r,i=>by
  simp only[up]
  by_cases hs:s=t
  .subst hs;simp only[Zq,cond_true,ld]
   by_cases h:i=s
   .subst h;simp
   .rw[gI (λe=>h e.symm),if_neg h];rfl
  .rw[gI hs];simp only[cond_false,ld,qY r i]
   by_cases h:i=t
   .subst h;rw[gI hs];simp
   .simp[h]
theorem zk{α:Type}:∀(f:List (Nat×α)) (l:List (Nat×α)) (i:Nat) (x:α),ld i (ups f l)=some x->(i,x)∈f\/(i ∉ f.map (·.1)/\ld i l=some x)
 |[],l,i,x,h => .inr ⟨η,h⟩
 |(t,y)::r,l,i,x,h=>by
  rcases zk r (up t y l) i x h with h1|⟨h1,h2⟩
  .left;exact vX _ h1
  .rw[qY]at h2;split at h2
   .rename_i hi;cases h2;subst hi;left;simp
   .rename_i hi;right;exact⟨by simp[hi];simpa using h1,h2⟩
theorem Comp.trans{m m' m'':MB}(h:Comp m m')(k:Comp m' m''):Comp m m'' :=
 ⟨k.v.trans h.v,λhv=>(k.g (h.v.trans hv)).trans (h.g hv),λhv=>by
  rcases h.h hv with⟨a1,a2,a3,a4⟩|a<;>rcases k.h (h.v.trans hv)with⟨c1,c2,c3,c4⟩|c
  .exact .inl ⟨c1.trans a1,c2.trans a2,c3.trans a3,c4.trans a4⟩
  .right;omega
  .right;omega
  .right;omega⟩
section
variable {P:Program} [Wld P] [Kp] [Gr] {τ:Tab} {N:Nat} {w0:World} {X0:List Nat} {S:List Bx} {M:MM} {a:Act} {w:World} {e:Env} {b:aZ}
variable {d:Option Nat} {ty:TypeId} {pos:String} {af:Array Edge} {gd:Option (Nat × Bool)} {k:AV->aZ->Prop}
structure Chg (w:World) (X:List Nat) (M:MM) (w':World) (X':List Nat) (M':MM) (al:List Nat) (f:aZ):Prop where
 ext:Ext w X w' X'
 same:∀i,i ∉ f.map (·.1)->M' i=M i
 comp:∀i m,M i=some m->i ∉ al->∃m',M' i=some m'/\Comp m m'
 new:∀i x,(i,x)∈f->∃m',M' i=some m'/\RepM w' X' M' m' x
theorem Chg.refl(w:World)(X:List Nat)(M:MM):Chg w X M w X M [] []:=⟨Ext.refl _ _,λ_ _=>rfl,λi m hm _=>⟨m,hm,Comp.refl m⟩,λi x hx=>by simp at hx⟩
theorem Chg.al{X X':List Nat}{w':World}{M':MM}{al:List Nat}{f:aZ}(h:Chg w X M w' X' M' [] f):Chg w X M w' X' M' al f:=⟨h.ext,h.same,λi m hm _=>h.comp i m hm η,h.new⟩
theorem Chg.post{al:List Nat}{f:aZ}{w':World}{S':List Bx}{M':MM}{u:Value}{v:AV}(h:Chg w (bl S++X0) M w' (bl S'++X0) M' al f)(hm:MS w0 w' S' M')(hv:RepV w' (bl S'++X0) M' u v):Post w0 X0 S M w al v f u w' :=
 ⟨S',M',hm,h.ext,hv,h.same,h.comp,h.new⟩
theorem Chg.trans{X X' X'':List Nat}{w' w'':World}{M' M'':MM}{al:List Nat}{f g:aZ}(h:Chg w X M w' X' M' [] f)(k:Chg w' X' M' w'' X'' M'' al g)(hd:∀i∈g.map (·.1),i ∉ f.map (·.1))(hno:∀i x,(i,x)∈f->tX x=[]):Chg w X M w'' X'' M'' al (f++g):=by
 refine⟨h.ext.trans k.ext,λi hi=>?_,λi m hm hi=>?_,λi x hx=>?_⟩
 .simp only[UZ,uh,not_or]at hi;rw[k.same i hi.2,h.same i hi.1]
 .obtain⟨m',h1,h2⟩:=h.comp i m hm η;obtain⟨m'',k1,k2⟩:=k.comp i m' h1 hi;exact⟨m'',k1,h2.trans k2⟩
 .rcases uh.1 hx with hx|hx
  .obtain⟨m',h1,h2⟩:=h.new i x hx;have hi:i ∉ g.map (·.1):=λhg=>hd i hg (iV.2 ⟨_,hx,rfl⟩)
   exact⟨m',(k.same i hi).trans h1,h2.ext k.ext (by rw[hno i x hx];simp)⟩
  .exact k.new i x hx
theorem Sta.chg(h:Sta N w0 X0 S M a w e b){S':List Bx}{M':MM}{w':World}{f:aZ}(hm:MS w0 w' S' M')(hc:Chg w (bl S++X0) M w' (bl S'++X0) M' [] f):Sta N w0 X0 S' M' a w' e (ups f b):=by
 refine⟨hm,h.x0,h.sz,⟨h.df.1,h.df.2.ext hc.ext⟩,λt v hv=>(h.env t v hv).ext hc.ext (λi _ m hm=>hc.comp i m hm η),λi x hx=>?_⟩;rcases zk f b i x hx with h1|⟨h1,h2⟩
 .exact hc.new i x h1
 .obtain⟨m,k1,k2⟩:=h.box i x h2;exact⟨m,(hc.same i h1).trans k1,k2.ext hc.ext λc _ m hm=>hc.comp c m hm η⟩
theorem fU{S:List Bx}{g x:Nat}(h:x∈bl (S.filter λq=>!(Nat.beq q.1 g))):x∈bl S/\x≠g:=by
 obtain⟨q,hq,rfl⟩:=iV.1 h;obtain⟨h1,h2⟩:=yS.1 hq;refine⟨iV.2 ⟨q,h1,rfl⟩,λe=>?_⟩;rw[e]at h2;simp at h2
theorem MS.drop(h:MS w0 w S M){i:Nat}{m:MB}{g:Nat}(hm:M i=some m)(ho:m.own=true)(hg:m.g=some g){m':MB}(ho':m'.own=false)(hgx:m'.gx=m.gx):MS w0 w (S.filter λq=>!(Nat.beq q.1 g)) (M.set i m'):=by
 refine⟨h.st.drop List.filter_sublist,h.gh.set (λx hx=>⟨m,hm,hgx▸hx⟩) (λc mc x hc hx q hq hqS=>yS.2 ⟨hqS,by simp[gI (h.gh.own c mc x i m g hc hx hm ho hg q hq)]⟩) (λ_ _ _ h=>h) (λg' h1 _=>by rw[ho']at h1;cases h1),λc mc hc hco gc hgc=>?_,λc c' mc mc' gc h1 h2 h3 h4 h5 h6=>?_⟩
 .by_cases hci:c=i
  .subst hci;rw[MM.set_same]at hc;cases hc;rw[ho']at hco;cases hco
  .rw[MM.set_other _ _ hci]at hc;refine yS.2 ⟨h.inS c mc hc hco gc hgc, ?_⟩;have:gc≠g:=λe=>hci (h.inj c i mc m g hc hm hco ho (e▸hgc) hg)
   simp[gI this]
 .by_cases hci:c=i
  .subst hci;rw[MM.set_same]at h1;cases h1;rw[ho']at h3;cases h3
  .by_cases hci':c'=i
   .subst hci';rw[MM.set_same]at h2;cases h2;rw[ho']at h4;cases h4
   .rw[MM.set_other _ _ hci]at h1;rw[MM.set_other _ _ hci']at h2;exact h.inj c c' mc mc' gc h1 h2 h3 h4 h5 h6
theorem MS.give(h:MS w0 w S M){i:Nat}{m m':MB}(hm:M i=some m)(ho':m'.own=false)(hgx:m'.gx=m.gx):MS w0 w S (M.set i m'):=by
 refine⟨h.st,h.gh.set (λx hx=>⟨m,hm,hgx▸hx⟩) (λ_ _ _ _ _ _ _ h=>h) (λ_ _ _ h=>h) (λg' h1 _=>by rw[ho']at h1;cases h1),λc mc hc hco gc hgc=>?_,λc c' mc mc' gc h1 h2 h3 h4 h5 h6=>?_⟩
 .by_cases hci:c=i
  .subst hci;rw[MM.set_same]at hc;cases hc;rw[ho']at hco;cases hco
  .rw[MM.set_other _ _ hci]at hc;exact h.inS c mc hc hco gc hgc
 .by_cases hci:c=i
  .subst hci;rw[MM.set_same]at h1;cases h1;rw[ho']at h3;cases h3
  .by_cases hci':c'=i
   .subst hci';rw[MM.set_same]at h2;cases h2;rw[ho']at h4;cases h4
   .rw[MM.set_other _ _ hci]at h1;rw[MM.set_other _ _ hci']at h2;exact h.inj c c' mc mc' gc h1 h2 h3 h4 h5 h6
theorem freeze(h:Sta N w0 X0 S M a w e b){i s:Nat}{T:TypeId}{es:List (List Cell)}(hb:ld i b=some (.grow T s es)):
 ∃S' M',MS w0 w S' M'/\Chg w (bl S++X0) M w (bl S'++X0) M' [] [(i,.froz s es)]/\∀m,M i=some m->RepC w (bl S'++X0) (hdr m) (.sl s es):=by
 obtain⟨m,hm,h1,h2,h3,h4,h5,h6⟩:=h.box i _ hb;have hcomp:Comp m { m with own:=false }:=⟨rfl,λ_=>rfl,λ_ => .inl ⟨rfl,rfl,rfl,rfl⟩⟩
 have fin:∀S':List Bx,(∀x∈bl S',x∈bl S)->MS w0 w S' (M.set i { m with own:=false })->RepC w (bl S'++X0) (hdr m) (.sl s es)->∃S' M',MS w0 w S' M'/\Chg w (bl S++X0) M w (bl S'++X0) M' [] [(i,.froz s es)]/\∀m,M i=some m->RepC w (bl S'++X0) (hdr m) (.sl s es):=by
  intro S' hsub hms hC;refine⟨S',_,hms,⟨Ext.drop λx hx=>?_,λc hc=>MM.set_other _ _ (by simpa using hc),λc mc hc _=>?_,λc x hx=>?_⟩,λm' hm'=>?_⟩
  .rcases uh.1 hx with hx|hx
   .exact yQ _ (hsub x hx)
   .exact qP _ hx
  .by_cases hci:c=i
   .subst hci;rw[hm]at hc;cases hc;exact⟨_,MM.set_same _ _ _,hcomp⟩
   .exact⟨mc,by rw[MM.set_other _ _ hci,hc],Comp.refl _⟩
  .simp only[pI,ou]at hx;obtain⟨rfl,rfl⟩:=hx;exact⟨_,MM.set_same _ _ _,h1,h4,h5,hC⟩
  .rw[hm]at hm';cases hm';exact hC
 rcases h6 with⟨g1,rfl,g3⟩|⟨g,uss,rest,g1,g2,g3,g4,g5,g6⟩
 .refine fin S (λ_ hx=>hx) (h.ms.give hm rfl rfl) ?_;unfold hdr;rw[g1,g3,h5];exact .nil _ _ _
 .refine fin _ (λx hx=>(fU hx).1) (h.ms.drop hm h2 g1 rfl rfl) ?_;have hrow:=h.row hm h2 g1
  have hng:g ∉ bl (S.filter λq=>!(Nat.beq q.1 g))++X0:=by
   intro hx;rcases uh.1 hx with hx|hx
   .exact(fU hx).2 rfl
   .have h7:=h.x0 g hx;rcases(h.ms.st.box _ (h.ms.inS i m hm h2 g g1)).2 with h8|h8
    .simp only at h8;omega
    .exact h7.2 h8
  have hcl:=Cl.of_block hrow hng uss.flatten.length;rw[Yf,g2,List.take_left' rfl]at hcl;have hmx:m.cap<=9223372036854775807:=by unfold maxLen at g5;omega
  have hS:=g3.ext (w':=w) (X':=bl (S.filter λq=>!(Nat.beq q.1 g))++X0) (Ext.drop λx hx=>by
   rcases uh.1 hx with hx|hx
   .exact yQ _ (fU hx).1
   .exact qP _ hx)
  unfold hdr;rw[g1,h5];exact hS.sl hcl ω hmx
theorem aa3(h:Sta N w0 X0 S M a w e b){i:Nat}{cs:List Cell}(hb:ld i b=some (.var cs)):
 ∃S' M',MS w0 w S' M'/\Chg w (bl S++X0) M w (bl S'++X0) M' [] [(i,.fvar cs)]/\∀m g,M i=some m->m.g=some g->∃us,Cl w (bl S'++X0) (some ⟨g,0,none⟩) us/\RepL w (bl S'++X0) us cs:=by
 obtain⟨m,hm,h1,h2,⟨g,g1⟩,h3⟩:=h.box i _ hb;have hcomp:Comp m { m with own:=false }:=⟨rfl,λ_=>rfl,λ_ => .inl ⟨rfl,rfl,rfl,rfl⟩⟩
 have hrow:=h.row hm h2 g1
 have hng:g ∉ bl (S.filter λq=>!(Nat.beq q.1 g))++X0:=by
  intro hx;rcases uh.1 hx with hx|hx
  .exact(fU hx).2 rfl
  .have h7:=h.x0 g hx;rcases(h.ms.st.box _ (h.ms.inS i m hm h2 g g1)).2 with h8|h8
   .simp only at h8;omega
   .exact h7.2 h8
 have hdrop:Ext w (bl S++X0) w (bl (S.filter λq=>!(Nat.beq q.1 g))++X0):=Ext.drop λx hx=>by
  rcases uh.1 hx with hx|hx
  .exact yQ _ (fU hx).1
  .exact qP _ hx
 have hcl:=Cl.of_block hrow hng m.us.length;rw[Yf,oU]at hcl;have hl:=h3.ext hdrop;refine⟨_,_,h.ms.drop hm h2 g1 (m':={ m with own:=false }) rfl rfl,⟨hdrop,λc hc=>MM.set_other _ _ (by simpa using hc),λc mc hc _=>?_,λc x hx=>?_⟩,λm' g' hm' hg'=>?_⟩
 .by_cases hci:c=i
  .subst hci;rw[hm]at hc;cases hc;exact⟨_,MM.set_same _ _ _,hcomp⟩
  .exact⟨mc,by rw[MM.set_other _ _ hci,hc],Comp.refl _⟩
 .simp only[pI,ou]at hx;obtain⟨rfl,rfl⟩:=hx;exact⟨_,MM.set_same _ _ _,h1,g,_,g1,hcl,hl⟩
 .rw[hm]at hm';cases hm';rw[g1]at hg';cases hg';exact⟨_,hcl,hl⟩
def FrzOnly(b f:aZ):Prop:=∀i x,(i,x)∈f->((∃T s es,ld i b=some (.grow T s es))\/∃cs,ld i b=some (.var cs))/\((∃s es,x=.froz s es)\/∃cs,x=.fvar cs)
theorem Dy{b f g:aZ}(hf:FrzOnly b f)(hg:FrzOnly (ups f b) g):∀i∈g.map (·.1),i ∉ f.map (·.1):=by
 intro i hi hm;obtain⟨p,hp,rfl⟩:=iV.1 hi;obtain⟨h0,_⟩:=hg p.1 p.2 hp
 have key:∀y,ld p.1 (ups f b)=some y->(∀s es,y ≠ .froz s es)->(∀cs,y ≠ .fvar cs)->False:=by
  intro y hy n1 n2;rcases zk f b _ _ hy with h|⟨h,_⟩
  .rcases(hf _ _ h).2 with⟨s',es',h2⟩|⟨cs',h2⟩
   .exact n1 _ _ h2
   .exact n2 _ h2
  .exact h hm
 rcases h0 with⟨T,s,es,he⟩|⟨cs,he⟩
 .exact key _ he (λ_ _=>by simp) (λ_=>by simp)
 .exact key _ he (λ_ _=>by simp) (λ_=>by simp)
theorem FrzOnly.append{b f g:aZ}(hf:FrzOnly b f)(hg:FrzOnly (ups f b) g):FrzOnly b (f++g):=by
 intro i x hx;rcases uh.1 hx with hx|hx
 .exact hf i x hx
 .obtain⟨h0,h2⟩:=hg i x hx;refine⟨?_,h2⟩
  have key:∀y,ld i (ups f b)=some y->(∀s es,y ≠ .froz s es)->(∀cs,y ≠ .fvar cs)->ld i b=some y:=by
   intro y hy n1 n2;rcases zk f b _ _ hy with h|⟨_,h⟩
   .rcases(hf _ _ h).2 with⟨s',es',h2⟩|⟨cs',h2⟩
    .exact absurd h2 (n1 _ _)
    .exact absurd h2 (n2 _)
   .exact h
  rcases h0 with⟨T,s,es,he⟩|⟨cs,he⟩
  .exact .inl ⟨T,s,es,key _ he (λ_ _=>by simp) (λ_=>by simp)⟩
  .exact .inr ⟨cs,key _ he (λ_ _=>by simp) (λ_=>by simp)⟩
theorem FrzOnly.nil(b:aZ):FrzOnly b []:=λi x hx=>by simp at hx
theorem FrzOnly.obs{b f:aZ}(h:FrzOnly b f):∀i x,(i,x)∈f->tX x=[]:=λi x hx=>by
 rcases(h i x hx).2 with⟨s,es,rfl⟩|⟨cs,rfl⟩<;>rfl
theorem Vb{X:List Nat}{g o:Nat}{us:List Value}{cs:List Cell}(hc:Cl w X (some ⟨g,o,none⟩) us)(hr:RepL w X us cs):RepC w X (.pointer (some ⟨g,o,none⟩)) (.p cs):=.p g o us cs hr.len hc hr.get
theorem qB{v:AV}{u:Value}(h:Sta N w0 X0 S M a w e b)(hv:RepV w (bl S++X0) M u v)(hk:jQ b v k):
 ∃v' f S' M',k v' f/\MS w0 w S' M'/\Chg w (bl S++X0) M w (bl S'++X0) M' [] f/\RepD w (bl S'++X0) u v'/\FrzOnly b f:=by
 unfold jQ at hk;split at hk
 .refine⟨_,[],S,M,hk,h.ms,Chg.refl _ _ _, ?_,FrzOnly.nil _⟩;rw[hv.v_];exact .c (.nil _ _ _)
 .rename_i x _;refine⟨_,[],S,M,hk,h.ms,Chg.refl _ _ _, ?_,FrzOnly.nil _⟩;cases hv with
  |d hd=>exact hd
 .rename_i cs;refine⟨_,[],S,M,hk,h.ms,Chg.refl _ _ _, ?_,FrzOnly.nil _⟩;cases hv with
  |d hd=>exact hd
 .rename_i i n;obtain⟨m,hm,hvv,hn⟩:=hv.gs_;split at hk
  .rename_i T s es hb;obtain⟨hl,hkk⟩:=hk;obtain⟨S',M',h1,h2,h3⟩:=freeze h hb;obtain⟨m',hm',q1,q2,q3,q4,q5,q6⟩:=h.box i _ hb;rw[hm]at hm';cases hm';refine⟨_,_,S',M',hkk,h1,h2, ?_,λc x hx=>?_⟩
   .rw[hn ω];exact .c (h3 m hm)
   .simp only[pI,ou]at hx;obtain⟨rfl,rfl⟩:=hx;exact⟨.inl ⟨T,s,es,hb⟩,.inl ⟨s,es,rfl⟩⟩
  .rename_i s es hb;obtain⟨hl,hkk⟩:=hk;obtain⟨m',hm',q1,q2,q3,q4⟩:=h.box i _ hb;rw[hm]at hm';cases hm';refine⟨_,[],S,M,hkk,h.ms,Chg.refl _ _ _, ?_,FrzOnly.nil _⟩;rw[hn ω];exact .c q4
  .cases hk
 .rename_i i o;obtain⟨m,g,hm,hvv,hg,rfl⟩:=hv.ptr_;simp only[pJ]at hk;split at hk
  .rename_i cs hb;obtain⟨S',M',h1,h2,h3⟩:=aa3 h hb;obtain⟨us,c1,c2⟩:=h3 m g hm hg;refine⟨_,_,S',M',hk,h1,h2, ?_,λc x hx=>?_⟩
   .rw[iR];have:=c1.drop o;simp only[vI,Addr.add_lit,uY]at this;exact .c (Vb this (c2.drop o))
   .simp only[pI,ou]at hx;obtain⟨rfl,rfl⟩:=hx;exact⟨.inr ⟨cs,hb⟩,.inr ⟨cs,rfl⟩⟩
  .rename_i cs hb;obtain⟨m',hm',q1,g',us,q2,c1,c2⟩:=h.box i _ hb;rw[hm]at hm';cases hm';rw[hg]at q2;cases q2;refine⟨_,[],S,M,hk,h.ms,Chg.refl _ _ _, ?_,FrzOnly.nil _⟩;rw[iR];have:=c1.drop o;simp only[vI,Addr.add_lit,uY]at this;exact .c (Vb this (c2.drop o))
  .cases hk
 .rename_i cs;obtain⟨g,o,us,rfl,c1,c2⟩:=hv.rd_;exact⟨_,[],S,M,hk,h.ms,Chg.refl _ _ _,.c (Vb c1 c2),FrzOnly.nil _⟩
 .cases hk
theorem NM:∀{cs:List Cell} {us:List Value} {b:aZ} {S:List Bx} {M:MM} {k:List Cell->aZ->Prop},Sta N w0 X0 S M a w e b->RepO w (bl S++X0) M us cs->IV cs b k ->
 ∃cs' f S' M',k cs' f/\MS w0 w S' M'/\Chg w (bl S++X0) M w (bl S'++X0) M' [] f/\RepL w (bl S'++X0) us cs'/\FrzOnly b f
 |[],us,b,S,M,k,h,hr,hk=>by
  have:us=[]:=UR (by simpa using hr.len);subst this;exact⟨_,_,S,M,hk,h.ms,Chg.refl _ _ _,.nil _ _,FrzOnly.nil _⟩
 |c::r,us,b,S,M,k,h,hr,hk=>by
  cases us with
  |nil=>have:=hr.len;simp at this
  |cons u us =>
   have h0:=hr.get 0 u c rfl rfl;have hr':RepO w (bl S++X0) M us r:=⟨by simpa using hr.len,λj x y p q=>hr.get (j+1) x y (by simpa using p) (by simpa using q)⟩
   have plain:RepC w (bl S++X0) u c->(IV r b λcs g=>k (c::cs) g)->∃cs' f S' M',k cs' f/\MS w0 w S' M'/\Chg w (bl S++X0) M w (bl S'++X0) M' [] f/\RepL w (bl S'++X0) (u::us) cs'/\FrzOnly b f:=by
    intro hc hk;obtain⟨cs',f,S',M',h1,h2,h3,h4,h5⟩:=NM h hr' hk;exact⟨_,f,S',M',h1,h2,h3,.cons (hc.ext h3.ext) h4,h5⟩
   cases h0 with
   |ob hg h1 =>
    simp only[IV]at hk;obtain⟨v',f,S1,M1,hk1,hm1,hc1,hd1,hf1⟩:=qB h hg.v hk;cases v' with
    |c c' =>
     simp only at hk1;have hs1:=h.chg hm1 hc1;obtain⟨cs',g,S',M',h1,h2,h3,h4,h5⟩:=NM hs1 (hr'.ext hc1.ext λd _ m hm=>hc1.comp d m hm η) hk1;cases hd1 with
     |c hd1=>exact⟨_,_,S',M',h1,h2,hc1.trans h3 (Dy hf1 h5) hf1.obs,.cons (hd1.ext h3.ext) h4,hf1.append h5⟩
    |_=>exact False.elim hk1
   |c hc =>
    refine plain hc ?_;cases hc<;>simpa only[IV]using hk
theorem Y2{t:TypeId}{x:Operand}{ti:TI}{ad:Addr}{us:List Value}{cs:List Cell}(h:Sta N w0 X0 S M a w e b)(ht:iQ P t ti=true)(hx:a.eval x=.pointer (some ad))(hm:Mem w ad us)(hr:RepO w (bl S++X0) M us cs)(hk:uJ ti cs b k):
 Good P w0 X0 S M a w ⟨d,.load t x,ty,pos,af,gd⟩ k:=by
 unfold uJ at hk;split at hk
 .rename_i n hn;split at hk
  .rename_i l hl;obtain⟨rfl,hle⟩:=oO hl;obtain⟨l',f,S',M',h1,h2,h3,h4,h5⟩:=NM h (hr.take n) hk
   have hrow:isRow P t n=true:=by
    cases ti<;>simp only[YU,qH]at hn<;>first|(cases hn;done)|skip
    .subst hn;simp only[iQ,gX]at ht;exact ht.1.1.1
    .subst hn;simp only[iQ,gX]at ht;exact ht.1.1.1
   have hlen:(us.take n).length=n:=by rw[xB,hr.len];omega
   refine⟨_,_,h1,.inl ⟨_,_,CW (cs:=(us.take n).toArray) (by simp only[Yx,hlen];exact hrow) hx (λj u hu=>hm j u (by
    simp only[TM,Pz]at hu;split at hu
    .exact hu
    .cases hu)),h3.al.post h2 (.d (.agg h4))⟩⟩
  .cases hk
 .rename_i hn
  have hone:∀c r,cs=c::r->jq P t=true->k (avO c) []->Good P w0 X0 S M a w ⟨d,.load t x,ty,pos,af,gd⟩ k:=by
   rintro c r rfl h1 hk;cases us with
   |nil=>have:=hr.len;simp at this
   |cons u us =>
    have:=hm 0 u rfl;have hz:ad.add 0=ad:=by simp[Addr.add]
    rw[hz]at this;exact .val h.ms hk (iP h1 hx this) (hr.get 0 u c rfl rfl).v
  cases ti<;>(try simp only at hk)<;>first|(cases hk;done)|skip
  all_goals(cases cs with
   |nil=>cases hk
   |cons c r=>first
    |(simp[YU]at hn;done)|exact hone c r rfl (by simp only[iQ,gX]at ht;first|exact ht.1.1|exact ht.1.1.1.1) hk)
theorem Yu{t:TypeId}{x:Operand}[WOk P w0](hτ:dQ P τ=true)(h:Sta N w0 X0 S M a w e b)(hk:bZ (Den P) τ ⟨d,.load t x,ty,pos,af,gd⟩ e b k):Good P w0 X0 S M a w ⟨d,.load t x,ty,pos,af,gd⟩ k:=by
 unfold bZ at hk;simp only at hk;split at hk
 .rename_i ti i off ht hx;obtain⟨m,g,hm,hv,hg,hxe⟩:=(h.ev hx).ptr_;split at hk
  .rename_i cs hb;cases hr:jd ti (dU off cs)with
   |none=>simp[hr]at hk
   |some v =>
    simp only[hr]at hk;rw[iR]at hr;obtain⟨m',hm',h1,h2,⟨g',h3⟩,h4⟩:=h.box i _ hb;rw[hm]at hm';cases hm';have hmem:=(Mem.of_row (h.row hm h2 hg)).drop off;rw[Addr.add_lit,uY]at hmem;obtain⟨u,hu,hR⟩:=Dn (M:=M) (ty:=ty) (pos:=pos) (af:=af) (gd:=gd) (d:=d) (bU hτ ht) hxe hmem (h4.drop off) hr;exact .val h.ms hk hu hR
  .rename_i cs hb;cases hr:jd ti (dU off cs)with
   |none=>simp[hr]at hk
   |some v =>
    simp only[hr]at hk;rw[iR]at hr;obtain⟨m',hm',h1,g',us,h2,h3,h4⟩:=h.box i _ hb;rw[hm]at hm';cases hm';rw[hg]at h2;cases h2;have hmem:=(Mem.of_cl h3).drop off;rw[Addr.add_lit,uY]at hmem;obtain⟨u,hu,hR⟩:=Dn (M:=M) (ty:=ty) (pos:=pos) (af:=af) (gd:=gd) (d:=d) (bU hτ ht) hxe hmem (h4.drop off) hr;exact .val h.ms hk hu hR
  .rename_i cs hb;obtain⟨m',hm',h1,h2,⟨g',h3⟩,h4⟩:=h.box i _ hb;rw[hm]at hm';cases hm';have hmem:=(Mem.of_row (h.row hm h2 hg)).drop off;rw[Addr.add_lit,uY]at hmem;rw[iR]at hk;exact Y2 h (bU hτ ht) hxe hmem (h4.drop off) hk
  .cases hk
 .rename_i ti cs ht hx;obtain⟨g,o,us,hxe,hc,hl⟩:=(h.ev hx).rd_;cases hr:jd ti cs with
  |none=>simp[hr]at hk
  |some v =>
   simp only[hr]at hk;obtain⟨u,hu,hR⟩:=Dn (M:=M) (ty:=ty) (pos:=pos) (af:=af) (gd:=gd) (d:=d) (bU hτ ht) hxe (Mem.of_cl hc) hl hr;exact .val h.ms hk hu hR
 .rename_i ti cs ht hx;obtain⟨g,o,us,hxe,hc,hl⟩:=(h.ev hx).p_;cases hr:jd ti cs with
  |none=>simp[hr]at hk
  |some v =>
   simp only[hr]at hk;obtain⟨u,hu,hR⟩:=Dn (M:=M) (ty:=ty) (pos:=pos) (af:=af) (gd:=gd) (d:=d) (bU hτ ht) hxe (Mem.of_cl hc) hl hr;exact .val h.ms hk hu hR
 .rename_i ti g off ht hx;have hxe:=(h.ev hx).gp_;split at hk
  .rename_i kk cs hg;cases hr:jd ti (dU off cs)with
   |none=>simp[hr]at hk
   |some v =>
    simp only[hr]at hk;rw[iR]at hr;obtain⟨us,h1,h2⟩:=WW hτ h hg (bl S++X0);have hmem:=h1.drop off;rw[Addr.add_lit,uY]at hmem;obtain⟨u,hu,hR⟩:=Dn (M:=M) (ty:=ty) (pos:=pos) (af:=af) (gd:=gd) (d:=d) (bU hτ ht) hxe hmem (h2.drop off) hr;exact .val h.ms hk hu hR
  .cases hk
 .rename_i ti i n j off ht hx;obtain⟨m,hm,hv,hn⟩:=(h.ev hx).pe_
  have key:∀(s:Nat) (es:List (List Cell)) (y:Bk),ld i b=some y->((∃T,y=.grow T s es)\/y=.froz s es)->Obl (n=es.length) (Elem es (j:Nat) λcs=>(match jd ti (dU off cs)with|some v=>k v []|none=>False))->Good P w0 X0 S M a w ⟨d,.load t x,ty,pos,af,gd⟩ k:=by
   rintro s es y hb hy ⟨hl,⟨j',cs,hj,he,hkk⟩⟩;have hj':j=j':=ω
   subst hj';cases hr:jd ti (dU off cs)with
   |none=>simp[hr]at hkk
   |some v =>
    simp only[hr]at hkk;rw[iR]at hr;obtain⟨m',hm',h1,h2,h3,h4⟩:=h.elems hb hy;rw[hm]at hm';cases hm';obtain⟨g,us,hg,hmem,hR⟩:=h4 j cs he;obtain⟨g',hg',hxe⟩:=hn ω;rw[hg]at hg';cases hg';rw[h2.1]at hxe;have hmem':=hmem.drop off;rw[Addr.add_lit]at hmem';obtain⟨u,hu,hR⟩:=Dn (M:=M) (ty:=ty) (pos:=pos) (af:=af) (gd:=gd) (d:=d) (bU hτ ht) hxe hmem' (hR.drop off) hr;exact .val h.ms hkk hu hR
  split at hk
  .rename_i T s es hb;exact key s es _ hb (.inl ⟨T,rfl⟩) hk
  .rename_i s es hb;exact key s es _ hb (.inr rfl) hk
  .cases hk
 .cases hk
end
section
variable {P:Program} [Wld P] [Kp] [Gr] {τ:Tab} {N:Nat} {w0:World} {X0:List Nat} {S:List Bx} {M:MM} {a:Act} {w:World} {e:Env} {b:aZ}
variable {d:Option Nat} {ty:TypeId} {pos:String} {af:Array Edge} {gd:Option (Nat × Bool)} {k:AV->aZ->Prop}
theorem MS.alloc(h:MS w0 w S M){i:Nat}{m:MB}{T:TypeId}(ho:m.own=true)(hg:m.g=some w.heap.size)(hT:m.T=T)(hgx:m.gx=none):MS w0 (w.alloc (.cells m.us.toArray T)) ((w.heap.size,T,m.us.toArray)::S) (M.set i m):=by
 refine⟨h.st.alloc _ _,h.gh.set (λx hx=>by rw[hgx]at hx;cases hx) (λ_ _ _ _ _ _ _ h=>vX _ h) (Gh _) (λg h1 h2 => .inr λhm=>by
  rw[hg]at h2;cases h2;obtain⟨q,hq,e⟩:=iV.1 hm;have:=h.st.lt hq
  omega),λc mc hc hco gc hgc=>?_,λc c' mc mc' gc h1 h2 h3 h4 h5 h6=>?_⟩
 .by_cases hci:c=i
  .subst hci;rw[MM.set_same]at hc;cases hc;rw[hg]at hgc;cases hgc;rw[hT];simp
  .rw[MM.set_other _ _ hci]at hc;exact vX _ (h.inS c mc hc hco gc hgc)
 .have old:∀c mc,c≠i->M.set i m c=some mc->mc.own=true->∀g,mc.g=some g->g≠w.heap.size:=by
   intro c mc hci hc hco g hgc;rw[MM.set_other _ _ hci]at hc;have h8:=h.st.lt (h.inS c mc hc hco g hgc);simp only at h8;omega
  by_cases hci:c=i
  .by_cases hci':c'=i
   .rw[hci,hci']
   .subst hci;rw[MM.set_same]at h1;cases h1;rw[hg]at h5;cases h5;exact absurd rfl (old c' mc' hci' h2 h4 _ h6)
  .by_cases hci':c'=i
   .subst hci';rw[MM.set_same]at h2;cases h2;rw[hg]at h6;cases h6;exact absurd rfl (old c mc hci h1 h3 _ h5)
   .rw[MM.set_other _ _ hci]at h1;rw[MM.set_other _ _ hci']at h2;exact h.inj c c' mc mc' gc h1 h2 h3 h4 h5 h6
theorem Qa(h:Sta N w0 X0 S M a w e b)(i:Nat)(T:TypeId){us:List Value}{cs:List Cell}(hl:RepL w (bl S++X0) us cs):
 ∃S' M',MS w0 (w.alloc (.cells us.toArray T)) S' M'/\Chg w (bl S++X0) M (w.alloc (.cells us.toArray T)) (bl S'++X0) M' [i] [(i,.var cs)]/\RepV (w.alloc (.cells us.toArray T)) (bl S'++X0) M' (.pointer (some ⟨w.heap.size,0,none⟩)) (.ptr i 0):=by
 have hms:=h.ms.alloc (i:=i) (m:=⟨true,true,some w.heap.size,T,0,0,0,us,none⟩) rfl rfl rfl rfl;have hext:Ext w (bl S++X0) (w.alloc (.cells us.toArray T)) (bl ((w.heap.size,T,us.toArray)::S)++X0):=Ext.alloc _ _ _;refine⟨_,_,hms,⟨hext,λc hc=>MM.set_other _ _ (by simpa using hc),λc mc hc hci=>⟨mc,by rw[MM.set_other _ _ (by simpa using hci),hc],Comp.refl _⟩,λc x hx=>?_⟩,.ptr (MM.set_same _ _ _) rfl rfl⟩;simp only[pI,ou]at hx;obtain⟨rfl,rfl⟩:=hx;exact⟨_,MM.set_same _ _ _,rfl,rfl,⟨_,rfl⟩,hl.ext hext⟩
theorem Bc{t:TypeId}{ti:TI}(h:iQ P t ti=true)(hty:Lu ti=true):∃z,zeroOf P t=some z/\vZ z.toList (zeroCells ti)=true:=by
 cases ti<;>simp only[iQ,gX]at h<;>simp only[zeroCells]
 all_goals first
  |(simp[Lu]at hty;done)|(have h2:=h.2;split at h2<;>first|exact⟨_,ξ,h2⟩|cases h2)|(have h2:=h.1.2;split at h2<;>first|exact⟨_,ξ,h2⟩|cases h2)
theorem Tz{t:TypeId}(hτ:dQ P τ=true)(h:Sta N w0 X0 S M a w e b)(hk:bZ (Den P) τ ⟨d,.alloc t,ty,pos,af,gd⟩ e b k):Good P w0 X0 S M a w ⟨d,.alloc t,ty,pos,af,gd⟩ k:=by
 unfold bZ at hk;simp only at hk;split at hk
 .rename_i ti i ht;split at hk
  .rename_i hty;obtain⟨z,hz,hzz⟩:=Bc (bU hτ ht) hty;obtain⟨S',M',h1,h2,h3⟩:=Qa h i t (nP w (bl S++X0) hzz);exact⟨_,_,hk,.inl ⟨_,_,MP hz,h2.post h1 h3⟩⟩
  .cases hk
 .cases hk
theorem abV{t:TypeId}{x:Operand}(h:Sta N w0 X0 S M a w e b)(hk:bZ (Den P) τ ⟨d,.box t x,ty,pos,af,gd⟩ e b k):Good P w0 X0 S M a w ⟨d,.box t x,ty,pos,af,gd⟩ k:=by
 unfold bZ at hk;simp only at hk;split at hk
 .rename_i i v hx;obtain⟨v',f,S1,M1,hk1,hm1,hc1,hd,hfo⟩:=qB h (h.ev hx) hk;split at hk1
  .rename_i hf;have h1:=h.chg hm1 hc1;obtain⟨us,hu,hl⟩:=hd.cells;obtain⟨S',M',q1,q2,q3⟩:=Qa h1 i t hl
   have hq:=hc1.trans q2 (λc hc=>by
    simp only[xZ,List.map_nil,pI]at hc;subst hc;intro hm;obtain⟨p,hp,hpe⟩:=iV.1 hm;have:=JX.1 hf p hp;rw[hpe]at this
    simp at this) hfo.obs
   refine⟨_,_,hk1,.inl ⟨_,_,WZ rfl, ?_⟩⟩;rw[hu];exact hq.post q1 q3
  .cases hk1
 .cases hk
theorem zV(us vs:List Value)(o:Nat):splice us.toArray o vs.toArray=(us.take o++vs++us.drop (o+vs.length)).toArray:=by
 simp[splice]
theorem MS.write(h:MS w0 w S M){i:Nat}{m:MB}{g:Nat}(hm:M i=some m)(ho:m.own=true)(hg:m.g=some g){w':World}{us:List Value}(hgr:w.grownBy w' (some g))(hn:w'.heap[g]?=some (.cells us.toArray m.T (0,0))):
 ∃S',MS w0 w' S' (M.set i { m with us:=us })/\bl S'=bl S:=by
 obtain⟨j,hj,hjv⟩:=Vt (h.inS i m hm ho g hg);have hjs:S[j]?=some (g,m.T,m.us.toArray):=by rw[pW hj,hjv]
 refine⟨_,⟨h.st.write j hjs hgr hn,h.gh.set (λx hx=>⟨m,hm,hx⟩) (λc mc x hc hx q hq hqS=>by
  have hne:=h.gh.own c mc x i m g hc hx hm ho hg q hq;obtain⟨p,hp,hpv⟩:=Vt hqS
  have hqj:j≠p:=by
   rintro rfl;rw[hjv]at hpv;exact hne (congrArg Prod.fst hpv).symm
  exact List.mem_iff_getElem?.2 ⟨p,by rw[List.getElem?_set_ne hqj,pW hp,hpv]⟩) (zf hgr λg' e=>by cases e;exact .row (h.st.get j hjs)) (λg' h1 h2 => .inl ⟨m,hm,h1,h2⟩),λc mc hc hco gc hgc=>?_,λc c' mc mc' gc h1 h2 h3 h4 h5 h6=>?_⟩,YW j hjs⟩
 .by_cases hci:c=i
  .subst hci;rw[MM.set_same]at hc;cases hc;rw[hg]at hgc;cases hgc;exact List.mem_iff_getElem?.2 ⟨j,by simp[hj]⟩
  .rw[MM.set_other _ _ hci]at hc;obtain⟨q,hq,hqv⟩:=Vt (h.inS c mc hc hco gc hgc);have hne:gc≠g:=λe=>hci (h.inj c i mc m g hc hm hco ho (e▸hgc) hg)
   have hqj:j≠q:=by
    rintro rfl;rw[hjv]at hqv;exact hne (congrArg Prod.fst hqv).symm
   exact List.mem_iff_getElem?.2 ⟨q,by rw[List.getElem?_set_ne hqj,pW hq,hqv]⟩
 .by_cases hci:c=i
  .by_cases hci':c'=i
   .rw[hci,hci']
   .subst hci;rw[MM.set_same]at h1;cases h1;rw[MM.set_other _ _ hci']at h2;exact h.inj c c' m mc' gc hm h2 ho h4 h5 h6
  .by_cases hci':c'=i
   .subst hci';rw[MM.set_same]at h2;cases h2;rw[MM.set_other _ _ hci]at h1;exact h.inj c c' mc m gc h1 hm h3 ho h5 h6
   .rw[MM.set_other _ _ hci]at h1;rw[MM.set_other _ _ hci']at h2;exact h.inj c c' mc mc' gc h1 h2 h3 h4 h5 h6
theorem OT{ti:TI}{n:Nat}(h:szB ti n=true):n=abQ ti/\Lu ti=true:=by
 unfold szB at h;split at h
 .rename_i h1;exact⟨jX h,h1⟩
 .cases h
theorem JZ{t:TypeId}{ti:TI}(h:iQ P t ti=true)(hty:Lu ti=true):(P.info? t).map (·.size)=some (abQ ti):=by
 have one:jq P t=true->(P.info? t).map (·.size)=some 1:=λh=>by simp only[jq,gX,decide_eq_true_eq]at h;exact h.2
 have row:∀n,isRow P t n=true->(P.info? t).map (·.size)=some n:=λn h=>by simp only[isRow,gX,decide_eq_true_eq]at h;exact h.2
 cases ti<;>simp only[iQ,gX]at h<;>simp only[abQ]
 .exact one h.1.1
 .exact one h.1.1
 .exact one h.1.1
 .exact row _ h.1.1.1
 .exact one h.1.1.1.1
 .exact row _ h.1.1.1
 .exact row _ h.1.1.1
 .cases hty
 .cases hty
theorem P8{us:List Value}(h:∀u∈us,u.oneCell'=true):us.toArray.toList.all Value.oneCell'=true:=oH.2 (by simpa using h)
theorem Am{s:Nat}{rest:List Value}{vs:List Value}{off:Nat}:∀{uss:List (List Value)} {i:Nat} {u:List Value},(∀us∈uss,us.length=s)->uss[i]?=some u->off+vs.length<=s ->
 (uss.flatten++rest).take (i*s+off)++vs++(uss.flatten++rest).drop (i*s+off+vs.length)=(uss.set i (u.take off++vs++u.drop (off+vs.length))).flatten++rest
 |[],i,u,_,h,_=>by simp at h
 |x::r,0,u,hs,h,hf=>by
  have:x=u:=by simpa using h
  subst this;have hx:=hs x η;simp only[Nat.zero_mul,uY,ZE,List.set_cons_zero,S9];rw[List.take_append_of_le_length ω,List.drop_append_of_le_length ω]
 |x::r,i+1,u,hs,h,hf=>by
  have hx:=hs x η;have ih:=Am (rest:=rest) (vs:=vs) (off:=off) (uss:=r) (i:=i) (u:=u) (λus hm=>hs us (by simp[hm])) (by simpa using h) hf;have e1:(i+1)*s+off=x.length+(i*s+off):=by rw[UY];omega
  simp only[ZE,List.set_cons_succ,S9]at ih ⊢;rw[e1,List.take_length_add_append,Nat.add_assoc x.length,List.drop_length_add_append];simp only[S9]at ih ⊢;rw[ih]
theorem AU{t:TypeId}{x y:Operand}{i off:Nat}{m:MB}{g:Nat}{vs:List Value}{f:aZ}{S1:List Bx}{M1:MM}{nb:Bk}(hxe:a.eval x=.pointer (some ⟨g,off,none⟩))(hm1:MS w0 w S1 M1)(hc1:Chg w (bl S++X0) M w (bl S1++X0) M1 [] f)(hif:i ∉ f.map (·.1))(hfo:∀i x,(i,x)∈f->tX x=[])
 (hM1:M1 i=some m) (q1:m.isVar=true) (q2:m.own=true) (hg:m.g=some g) (hrow:w.heap[g]?=some (.cells m.us.toArray m.T (0,0))) (hu:(a.eval y).cells=vs.toArray) (hsz:(P.info? t).map (·.size)=some vs.length) (h1:∀u∈vs,u.oneCell'=true) (hfit:off+vs.length<=m.us.length)
 (hnew:∀{w':World} {X':List Nat} {M':MM} {m':MB},Ext w (bl S1++X0) w' X'->(∀c mc,M1 c=some mc->∃mc',M' c=some mc'/\Comp mc mc')->m'.isVar=true->m'.own=true->m'.g=some g->m'.us=m.us.take off++vs++m.us.drop (off+vs.length)->RepM w' X' M' m' nb)
 (hk:k .any (f++[(i,nb)])):Good P w0 X0 S M a w ⟨d,.store t x y,ty,pos,af,gd⟩ k:=by
 have hrun:=qp (P:=P) (w:=w) (t:=t) (g:=g) (off:=off) (v:=a.eval y) hu (by rw[hsz];simp) (P8 h1) hrow (by simpa using hfit);rw[zV]at hrun;have hgr:=jm w g (m.us.take off++vs++m.us.drop (off+vs.length)).toArray;obtain⟨S',hms,hbl⟩:=hm1.write hM1 q2 hg hgr (setRow_heap w g _ _ _ _ hrow);refine⟨_,_,hk,.inr (.inl ⟨w.setRow g (m.us.take off++vs++m.us.drop (off+vs.length)).toArray, ?_, ?_⟩)⟩
 .simp only[execOp,hxe,Sem.run_bind,hrun,Result.andThen_ok,Sem.run_pure]
 .have hgin:g∈bl S1++X0:=yQ _ (iV.2 ⟨_,hm1.inS i m hM1 q2 g hg,rfl⟩);have hext:Ext w (bl S1++X0) (w.setRow g (m.us.take off++vs++m.us.drop (off+vs.length)).toArray) (bl S'++X0):=by rw[hbl];exact Ext.write hgr hgin
  have hcomp:∀c mc,M1 c=some mc->∃mc',(M1.set i { m with us:=m.us.take off++vs++m.us.drop (off+vs.length) }) c=some mc'/\Comp mc mc':=λc mc hc=>by
   by_cases hci:c=i
   .subst hci;rw[hM1]at hc;cases hc;exact⟨_,MM.set_same _ _ _,rfl,λ_=>rfl,λh0=>by rw[q1]at h0;cases h0⟩
   .exact⟨mc,by rw[MM.set_other _ _ hci,hc],Comp.refl _⟩
  have hc2:Chg w (bl S1++X0) M1 (w.setRow g (m.us.take off++vs++m.us.drop (off+vs.length)).toArray) (bl S'++X0) (M1.set i { m with us:=m.us.take off++vs++m.us.drop (off+vs.length) }) (qN ⟨d,.store t x y,ty,pos,af,gd⟩) [(i,nb)]:=by
   refine⟨hext,λc hc=>MM.set_other _ _ (by simpa using hc),λc mc hc _=>hcomp c mc hc,λc z hz=>?_⟩;simp only[pI,ou]at hz;obtain⟨rfl,rfl⟩:=hz;exact⟨_,MM.set_same _ _ _,hnew hext hcomp q1 q2 hg rfl⟩
  exact(hc1.trans hc2 (λc hc=>by simp at hc;subst hc;exact hif) hfo).post hms .any
theorem CO{i n:Nat}(h:Sta N w0 X0 S M a w e b){u:Value}(hu:RepV w (bl S++X0) M u (.gs i n)){m:Nat}(hl:tN i b=some m)(hn:n=m):RepG M u (.gs i n)/\u.oneCell'=true:=by
 obtain⟨mb,hm,hv,hh⟩:=hu.gs_
 have hnm:mb.n=m:=by
  unfold tN at hl;split at hl
  .rename_i T s es hb;obtain⟨m',hm',q1,q2,q3,q4,q5,q6⟩:=h.box i _ hb;rw[hm]at hm';cases hm';simp only[qH]at hl;omega
  .rename_i s es hb;obtain⟨m',hm',q1,q2,q3,q4⟩:=h.box i _ hb;rw[hm]at hm';cases hm';simp only[qH]at hl;omega
  .cases hl
 refine⟨.gs hm hv ω hh hu.gs_len, ?_⟩;rw[hh ω];rfl
theorem Tf{v:AV}{i n:Nat}(h:Kr v=some (i,n)):v=.gs i n:=by
 unfold Kr at h;split at h
 .cases h;rfl
 .cases h
theorem Xw{t:TypeId}{ti:TI}(ht:iQ P t ti=true)(h:UD ti=true):(P.info? t).map (·.size)=some 1/\Lu ti=true:=by
 cases ti<;>simp only[UD]at h<;>first|(cases h;done)|skip
 exact⟨JZ ht rfl,rfl⟩
theorem OE{x:Option AV}{ds:List Cell}(h:wG x=some ds):x=some (.ago ds):=by
 unfold wG at h;split at h
 .cases h;rfl
 .cases h
theorem RepV.ago_{w:World}{X:List Nat}{M:MM}{u:Value}{cs:List Cell}(h:RepV w X M u (.ago cs)):∃us:List Value,u=.agg us.toArray/\RepO w X M us cs:=by
 cases h with
 |d h=>cases h
 |ago h=>exact⟨_,rfl,h⟩
theorem RepO.one{w:World}{X:List Nat}{M:MM}{us:List Value}{cs:List Cell}(h:RepO w X M us cs):∀u∈us,u.oneCell'=true:=by
 intro u hu;obtain⟨i,hi,rfl⟩:=Vt hu;have hi':i<cs.length:=by rw[<-h.len];exact hi
 have h5:=h.get i _ _ (pW hi) (pW hi');generalize cs[i]=c at h5;cases h5 with
 |c h=>exact h.one
 |ob _ h=>exact h
theorem Uk{t:TypeId}{x y:Operand}(hτ:dQ P τ=true)(h:Sta N w0 X0 S M a w e b)(hk:bZ (Den P) τ ⟨d,.store t x y,ty,pos,af,gd⟩ e b k):Good P w0 X0 S M a w ⟨d,.store t x y,ty,pos,af,gd⟩ k:=by
 unfold bZ at hk;simp only at hk;split at hk
 .rename_i ds hag;split at hk
  .rename_i ti i off ht hx;split at hk
   .rename_i cs hb;split at hk
    .rename_i cs' hsz hp;obtain⟨m,g,hm,hv,hg,hxe⟩:=(h.ev hx).ptr_;obtain⟨m',hm',q1,q2,q3,q4⟩:=h.box i _ hb;rw[hm]at hm';cases hm';have hy:=OE hag;obtain⟨us,hye,hro⟩:=(h.ev hy).ago_;obtain⟨hszz,hty⟩:=OT hsz;obtain⟨hfit,rfl⟩:=lF hp;have hlen:=hro.len;refine AU (i:=i) (m:=m) (vs:=us) (f:=[]) (nb:=.varo (cs.take off++ds++cs.drop (off+ds.length))) hxe h.ms (Chg.refl _ _ _) η η hm hv q2 hg (h.row hm q2 hg) (by rw[hye];rfl) (by rw[JZ (bU hτ ht) hty,<-hszz,<-hlen]) hro.one (by rw[q4.len,hlen];exact hfit) ?_ hk;intro w' X' M' m' he hcomp k1 k2 k3 k4;refine⟨k1,k2,⟨g,k3⟩, ?_⟩;rw[k4,<-hlen];exact(((q4.o.take off).append hro).append (q4.o.drop _)).ext he λc _ mc hc=>hcomp c mc hc
    .cases hk
   .cases hk
  .cases hk
 split at hk
 .rename_i ti i off v ht hx hy;obtain⟨m,g,hm,hv,hg,hxe⟩:=(h.ev hx).ptr_
  have nif:∀{f:aZ},(f.any λp=>Nat.beq p.1 i)=false->i ∉ f.map (·.1):=fun {f} hf hm=>by
   obtain⟨p,hp,hpe⟩:=iV.1 hm;have:=JX.1 hf p hp;rw[hpe]at this;simp at this
  have obs:∀{b' n:Nat} {cs cs':List Cell} {ml:Nat} ,m.own=true->RepO w (bl S++X0) M m.us cs->UD ti=true->Kr v=some (b',n)->tN b' b=some ml->oK off [.ob b' n] cs=some cs'->Obl (n=ml) (k .any [(i,.varo cs')])->Good P w0 X0 S M a w ⟨d,.store t x y,ty,pos,af,gd⟩ k:=by
   intro b' n cs cs' ml ho hro hsl hgs hlen hp hkk;have hveq:=Tf hgs;subst hveq;obtain⟨hG,h1⟩:=CO h (h.ev hy) hlen hkk.p;obtain⟨hfit,rfl⟩:=lF hp;refine AU (i:=i) (m:=m) (vs:=[a.eval y]) (f:=[]) (nb:=.varo (cs.take off++[Cell.ob b' n]++cs.drop (off+[Cell.ob b' n].length))) hxe h.ms (Chg.refl _ _ _) η η hm hv ho hg (h.row hm ho hg) (oneCell_cells h1) (by rw[(Xw (bU hτ ht) hsl).1];rfl) (by simpa using h1) (by have:=hro.len;simpa[this]using hfit) ?_ hkk.k;intro w' X' M' m' he hcomp k1 k2 k3 k4;refine⟨k1,k2,⟨g,k3⟩, ?_⟩;rw[k4]
   have hc1:RepO w (bl S++X0) M [a.eval y] [.ob b' n]:=⟨rfl,λj u c p q=>by
    cases j with
    |zero=>simp at p q;subst p q;exact .ob hG h1
    |succ j=>simp at p⟩
   exact(((hro.take off).append hc1).append (hro.drop _)).ext he λc _ mc hc=>hcomp c mc hc
  have old:∀{cs:List Cell} (vo:Bool),ld i b=some (cond vo (.varo cs) (.var cs))->(jQ b v λv' f=>(match f.any (λp=>Nat.beq p.1 i),szB ti (cellsOf v').length,oK off (cellsOf v') cs with|false,true,some cs'=>k .any (f++[(i,cond vo (.varo cs') (.var cs'))])|_,_,_=>False))->Good P w0 X0 S M a w ⟨d,.store t x y,ty,pos,af,gd⟩ k:=by
   intro cs vo hb hk;obtain⟨v',f,S1,M1,hk1,hm1,hc1,hd,hfo⟩:=qB h (h.ev hy) hk;have h1:=h.chg hm1 hc1;obtain⟨vs,hu,hl⟩:=hd.cells;split at hk1
   .rename_i cs' hf hsz hp;have hif:=nif hf;have hM1:M1 i=some m:=(hc1.same i hif).trans hm;obtain⟨hszz,hty⟩:=OT hsz;obtain⟨hfit,rfl⟩:=lF hp;have hlen:=hl.len;cases vo with
    |false =>
     obtain⟨m',hm',q1,q2,⟨g',q3⟩,q4⟩:=h.box i _ hb;rw[hm]at hm';cases hm';refine AU (i:=i) (m:=m) hxe hm1 hc1 hif hfo.obs hM1 q1 q2 hg (h1.row hM1 q2 hg) hu (by rw[JZ (bU hτ ht) hty,<-hszz,<-hlen]) hl.one (by rw[q4.len,hlen];exact hfit) ?_ hk1;intro w' X' M' m' he hcomp k1 k2 k3 k4;refine⟨k1,k2,⟨g,k3⟩, ?_⟩;rw[k4,<-hlen];have q4':=q4.ext hc1.ext;exact(((q4'.take off).append hl).append (q4'.drop _)).ext he
    |true =>
     obtain⟨m',hm',q1,q2,⟨g',q3⟩,q4⟩:=h.box i _ hb;rw[hm]at hm';cases hm';refine AU (i:=i) (m:=m) hxe hm1 hc1 hif hfo.obs hM1 q1 q2 hg (h1.row hM1 q2 hg) hu (by rw[JZ (bU hτ ht) hty,<-hszz,<-hlen]) hl.one (by rw[q4.len,hlen];exact hfit) ?_ hk1;intro w' X' M' m' he hcomp k1 k2 k3 k4;refine⟨k1,k2,⟨g,k3⟩, ?_⟩;rw[k4,<-hlen];have q4':=q4.ext hc1.ext λc _ mc hc=>hc1.comp c mc hc η
     exact(((q4'.take off).append hl.o).append (q4'.drop _)).ext he λc _ mc hc=>hcomp c mc hc
   .exact False.elim hk1
  split at hk
  .rename_i cs hb;split at hk
   .rename_i b' n ho hsl hgs;split at hk
    .rename_i ml cs' hlen hp;obtain⟨m',hm',q1,q2,_,q4⟩:=h.box i _ hb;rw[hm]at hm';cases hm';exact obs q2 q4.o hsl hgs hlen hp hk
    .cases hk
   .exact old false hb hk
  .rename_i cs hb;split at hk
   .rename_i b' n hsl hgs;split at hk
    .rename_i ml cs' hlen hp;obtain⟨m',hm',q1,q2,_,q4⟩:=h.box i _ hb;rw[hm]at hm';cases hm';exact obs q2 q4 hsl hgs hlen hp hk
    .cases hk
   .exact old true hb hk
  .cases hk
 .rename_i ti i n j off v ht hx hy;obtain⟨m,hm,hv,hn⟩:=(h.ev hx).pe_;split at hk
  .rename_i T s es hb;obtain⟨v',f,S1,M1,hk1,hm1,hc1,hd,hff⟩:=qB h (h.ev hy) hk;split at hk1
   .rename_i hf0;obtain⟨hnl,⟨j',cs,hj,he,hkk⟩⟩:=hk1;have hj':j=j':=ω
    subst hj';split at hkk
    .rename_i cs' hsz hp;obtain⟨hszz,hty⟩:=OT hsz;obtain⟨hfit,rfl⟩:=lF hp;have hM1:M1 i=some m:=(hc1.same i η).trans hm;have h1:=h.chg hm1 hc1;obtain⟨vs,hu,hl⟩:=hd.cells;have hlen:=hl.len;obtain⟨m',hm',q1,q2,q3,q4,q5,q6⟩:=h1.box i _ hb;rw[hM1]at hm';cases hm';rcases q6 with⟨_,rfl,_⟩|⟨g,uss,rest,g1,g2,g3,g4,g5,g6⟩
     .simp at he
     .obtain⟨g',hg',hxe⟩:=hn ω;rw[g1]at hg';cases hg';rw[q4.1]at hxe;have hlt:j<uss.length:=by rw[g3.len];exact(qG.1 he).1
      have huj:uss[j]?=some uss[j]:=pW hlt;have hsj:=g3.sz _ (qbJ hlt);have hRj:=g3.get j _ _ huj he;have hcs:cs.length=s:=by rw[<-hRj.len];exact hsj
      have hrow:=h1.row hM1 q2 g1;have hfl:uss.flatten.length=uss.length*s:=fC g3.sz;have hbig:j*s+s<=uss.length*s:=by rw[<-UY];exact Nat.mul_le_mul_right s hlt
      have hrun:=qp (P:=P) (w:=w) (t:=t) (g:=g) (off:=j*s+off) (v:=a.eval y) hu (by rw[JZ (bU hτ ht) hty,<-hszz,<-hlen];simp) (P8 hl.one) hrow (by
       simp only[Yx,g2,rQ,hfl];omega)
      rw[zV,g2,Am g3.sz huj ω]at hrun;have hgr:=jm w g ((uss.set j (uss[j].take off++vs++uss[j].drop (off+vs.length))).flatten++rest).toArray;obtain⟨S',hms,hbl⟩:=hm1.write hM1 q2 g1 hgr (setRow_heap w g _ _ _ _ hrow);refine⟨_,_,hkk,.inr (.inl ⟨w.setRow g ((uss.set j (uss[j].take off++vs++uss[j].drop (off+vs.length))).flatten++rest).toArray, ?_, ?_⟩)⟩
      .simp only[execOp,hxe,Sem.run_bind,hrun,Result.andThen_ok,Sem.run_pure]
      .have hgin:g∈bl S1++X0:=yQ _ (iV.2 ⟨_,hm1.inS i m hM1 q2 g g1,rfl⟩);have hext:Ext w (bl S1++X0) (w.setRow g ((uss.set j (uss[j].take off++vs++uss[j].drop (off+vs.length))).flatten++rest).toArray) (bl S'++X0):=by rw[hbl];exact Ext.write hgr hgin
       have hnl':(uss[j].take off++vs++uss[j].drop (off+vs.length)).length=s:=by simp;omega
       have hc2:Chg w (bl S1++X0) M1 (w.setRow g ((uss.set j (uss[j].take off++vs++uss[j].drop (off+vs.length))).flatten++rest).toArray) (bl S'++X0) (M1.set i { m with us:=(uss.set j (uss[j].take off++vs++uss[j].drop (off+vs.length))).flatten++rest }) (qN ⟨d,.store t x y,ty,pos,af,gd⟩) [(i,.grow T s (es.set j (cs.take off++cellsOf v'++cs.drop (off+(cellsOf v').length))))]:=by
        refine⟨hext,λc hc=>MM.set_other _ _ (by simpa using hc),λc mc hc _=>?_,λc z hz=>?_⟩
        .by_cases hci:c=i
         .subst hci;rw[hM1]at hc;cases hc;exact⟨_,MM.set_same _ _ _,rfl,λ_=>rfl,λh0 => .inl ⟨rfl,rfl,rfl,rfl⟩⟩
         .exact⟨mc,by rw[MM.set_other _ _ hci,hc],Comp.refl _⟩
        .simp only[pI,ou]at hz;obtain⟨rfl,rfl⟩:=hz;refine⟨_,MM.set_same _ _ _,q1,q2,q3,q4,by simpa using q5,.inr ⟨g,_,rest,g1,rfl,⟨by simpa using g3.len,λus hus=>?_,λc us ee hc1 hc2=>?_⟩, ?_,g5,g6⟩⟩
         .rcases List.mem_or_eq_of_mem_set hus with hus|rfl
          .exact g3.sz us hus
          .exact hnl'
         .by_cases hcj:j=c
          .subst hcj;rw[List.getElem?_set_self hlt]at hc1;rw[List.getElem?_set_self (by rw[<-g3.len];exact hlt)]at hc2;cases hc1;cases hc2;rw[<-hlen];exact(((hRj.take off).append hl).append (hRj.drop _)).ext hext
          .rw[List.getElem?_set_ne hcj]at hc1 hc2;exact(g3.get c us ee hc1 hc2).ext hext
         .rw[g4,g2]
          have hs2:∀us∈uss.set j (uss[j].take off++vs++uss[j].drop (off+vs.length)),us.length=s:=λus hus=>by
           rcases List.mem_or_eq_of_mem_set hus with hus|rfl
           .exact g3.sz us hus
           .exact hnl'
          simp only[rQ,hfl,fC hs2,kG]
       exact(hc1.trans hc2 (λc hc=>by simp) (λi x hx=>by simp at hx)).post hms .any
    .exact False.elim hkk
   .exact False.elim hk1
  .cases hk
 .cases hk
end
theorem EH{α:Type}(us:List α)(n:Nat)(v:α)(h:n<us.length):(us.set n v).take (n+1)=us.take n++[v]:=by
 rw[List.take_add_one,List.getElem?_set_self h];simp only[List.take_set,Option.toList_some];rw[List.set_eq_of_length_le κ]
theorem foldl_set(off:Nat):∀(vs us:List Value) (k:Nat),off+k+vs.length<=us.length->(vs.zipIdx k).foldl (λ(cs:Array Value) p=>cs.setIfInBounds (off+p.2) p.1) us.toArray=(us.take (off+k)++vs++us.drop (off+k+vs.length)).toArray
 |[],us,k,h=>by simp
 |v::r,us,k,h=>by
  simp only[ji]at h;simp only[List.zipIdx_cons,Na,List.setIfInBounds_toArray];rw[foldl_set off r (us.set (off+k) v) (k+1) κ];congr 1;have h1:off+k<us.length:=ω
  rw[show off+(k+1)=off+k+1 by omega,EH us _ v h1,List.drop_set_of_lt ω];simp;congr 1;omega
section
variable {P:Program} [Wld P] [Kp] [Gr] {τ:Tab} {N:Nat} {w0:World} {X0:List Nat} {S:List Bx} {M:MM} {a:Act} {w:World} {e:Env} {b:aZ}
variable {d:Option Nat} {ty:TypeId} {pos:String} {af:Array Edge} {gd:Option (Nat × Bool)} {k:AV->aZ->Prop}
theorem uN{v:AV}{u:Value}{k:AV->aZ->Prop}(h:Sta N w0 X0 S M a w e b)(hv:RepV w (bl S++X0) M u v)(hk:jQ b v k):
 ∃v' f S' M',k v' f/\MS w0 w S' M'/\Chg w (bl S++X0) M w (bl S'++X0) M' [] f/\RepD w (bl S'++X0) u v'/\FrzOnly b f:=qB h hv hk
theorem pV:∀{vs:List AV} {us:List Value} {b:aZ} {S:List Bx} {M:MM} {k:List AV->aZ->Prop},Sta N w0 X0 S M a w e b->us.length=vs.length->(∀(i:Nat) u v,us[i]?=some u->vs[i]?=some v->RepV w (bl S++X0) M u v)->jU vs b k ->
 ∃vs' f S' M',k vs' f/\MS w0 w S' M'/\Chg w (bl S++X0) M w (bl S'++X0) M' [] f/\(us.length=vs'.length/\∀(i:Nat) u v,us[i]?=some u->vs'[i]?=some v->RepD w (bl S'++X0) u v)/\FrzOnly b f
 |[],us,b,S,M,k,h,hl,hr,hk=>by
  have:us=[]:=UR (by simpa using hl);subst this;exact⟨_,_,S,M,hk,h.ms,Chg.refl _ _ _,⟨rfl,λi u v a=>by simp at a⟩,FrzOnly.nil _⟩
 |v::r,us,b,S,M,k,h,hl,hr,hk=>by
  cases us with
  |nil=>simp at hl
  |cons u us =>
   simp only[jU]at hk;obtain⟨v',f,S1,M1,hk1,hm1,hc1,hd1,hf1⟩:=uN h (hr 0 u v rfl rfl) hk;have h1:=h.chg hm1 hc1;obtain⟨vs',g,S2,M2,hk2,hm2,hc2,⟨hl2,hd2⟩,hf2⟩:=pV h1 (by simpa using hl) (λi u' v'' a c=>(hr (i+1) u' v'' (by simpa using a) (by simpa using c)).ext hc1.ext (λc _ m hm=>hc1.comp c m hm η)) hk1;refine⟨_,_,S2,M2,hk2,hm2,hc1.trans hc2 (Dy hf1 hf2) hf1.obs,⟨by simp[hl2],λi x y a c=>?_⟩,hf1.append hf2⟩;cases i with
   |zero=>simp at a c;subst a c;exact hd1.ext hc2.ext
   |succ i=>exact hd2 i x y (by simpa using a) (by simpa using c)
theorem vP:∀{ps:List (Nat×Operand)} {b:aZ} {S:List Bx} {M:MM} {k:List (Nat×List Cell)->aZ->Prop},Sta N w0 X0 S M a w e b->oL e ps b k ->
 ∃vs f S' M',k vs f/\MS w0 w S' M'/\Chg w (bl S++X0) M w (bl S'++X0) M' [] f/\(ps.length=vs.length/\∀(i:Nat) p q,ps[i]?=some p->vs[i]?=some q->p.1=q.1/\∃us,(a.eval p.2).cells=us.toArray/\RepL w (bl S'++X0) us q.2)/\FrzOnly b f
 |[],b,S,M,k,h,hk=>⟨_,_,S,M,hk,h.ms,Chg.refl _ _ _,⟨rfl,λi u v a=>by simp at a⟩,FrzOnly.nil _⟩
 |(j,x)::r,b,S,M,k,h,hk=>by
  simp only[oL]at hk;cases hx:ae e x with
  |none=>simp[hx]at hk
  |some v =>
   simp only[hx]at hk;obtain⟨v',f,S1,M1,hk1,hm1,hc1,hd1,hf1⟩:=uN h (h.ev hx) hk;have h1:=h.chg hm1 hc1;obtain⟨vs',g,S2,M2,hk2,hm2,hc2,⟨hl2,hd2⟩,hf2⟩:=vP h1 hk1;refine⟨_,_,S2,M2,hk2,hm2,hc1.trans hc2 (Dy hf1 hf2) hf1.obs,⟨by simp[hl2],λi p q hp hq=>?_⟩,hf1.append hf2⟩;cases i with
   |zero =>
    simp at hp hq;subst hp hq;obtain⟨us,hu,hl⟩:=hd1.cells;exact⟨rfl,us,hu,hl.ext hc2.ext⟩
   |succ i=>exact hd2 i p q (by simpa using hp) (by simpa using hq)
theorem FW(h:Sta N w0 X0 S M a w e b):∀{ps:List (Nat×Operand)} {k:List (Nat×List Cell)->Prop},tC e b ps k ->
 ∃vs,k vs/\(ps.length=vs.length/\∀(i:Nat) p q,ps[i]?=some p->vs[i]?=some q->p.1=q.1/\∃us,(a.eval p.2).cells=us.toArray/\RepO w (bl S++X0) M us q.2)
 |[],k,hk=>⟨_,hk,rfl,λi u v a=>by simp at a⟩
 |(j,x)::r,k,hk=>by
  simp only[tC]at hk;cases hx:ae e x with
  |none=>simp[hx]at hk
  |some v =>
   simp only[hx]at hk;have hv:=h.ev hx
   have key:∃cs us,(a.eval x).cells=us.toArray/\RepO w (bl S++X0) M us cs/\tC e b r λvs=>k ((j,cs)::vs):=by
    unfold yj at hk;split at hk
    .have:=hv.v_;exact⟨_,[.slice none 0 0],by rw[this];rfl,(RepL.cons (RepC.nil _ _ _) (.nil _ _)).o,hk⟩
    .rename_i c hne;have hxe:=hv;generalize a.eval x=u at hxe ⊢;cases hxe with
     |d hd =>
      cases hd with
      |c hc=>exact⟨_,[u],oneCell_cells hc.one,(RepL.cons hc (.nil _ _)).o,hk⟩
    .rename_i cs;have hxe:=hv;generalize a.eval x=u at hxe ⊢;cases hxe with
     |d hd =>
      cases hd with
      |agg hl=>exact⟨_,_,rfl,hl.o,hk⟩
    .rename_i b' n;split at hk
     .rename_i m hm;obtain⟨hG,h1⟩:=CO h hv hm hk.p
      exact⟨_,[a.eval x],oneCell_cells h1,⟨rfl,λj u c p q=>by
       cases j with
       |zero=>simp at p q;subst p q;exact .ob hG h1
       |succ j=>simp at p⟩,hk.k⟩
     .cases hk
    .cases hk
   obtain⟨cs,us,q1,q2,q3⟩:=key;obtain⟨vs,h1,h2,h3⟩:=FW h q3;refine⟨_,h1,by simp[h2],λi p q hp hq=>?_⟩;cases i with
   |zero=>simp at hp hq;subst hp hq;exact⟨rfl,us,q1,q2⟩
   |succ i=>exact h3 i p q (by simpa using hp) (by simpa using hq)
theorem KN{X:List Nat}{M:MM}{place:Nat->Option (Nat×Nat)}{fs:List (Nat×Nat×Bool)}(hp:∀i x,fs[i]?=some x->place i=some (x.1,x.2.1)):∀{ps:List (Nat×Value)} {vs:List (Nat×List Cell)} {zz:List Value} {z cs:List Cell},ps.length=vs.length ->
 (∀(i:Nat) p q,ps[i]?=some p->vs[i]?=some q->p.1=q.1/\∃us,p.2.cells=us.toArray/\RepO w X M us q.2)->RepO w X M zz z->mD fs vs z=some cs->∃us,Instr.fill place zz.toArray ps=some us.toArray/\RepO w X M us cs
 |[],[],zz,z,cs,_,_,hz,hf=>by simp[mD]at hf;subst hf;exact⟨zz,rfl,hz⟩
 |[],_::_,zz,z,cs,hl,_,hz,hf=>by simp at hl
 |_::_,[],zz,z,cs,hl,_,hz,hf=>by simp at hl
 |(i,u)::r,(j,c)::l,zz,z,cs,hl,hr,hz,hf=>by
  obtain⟨hij,us,hu,hL⟩:=hr 0 _ _ rfl rfl;simp only at hij hu;subst hij;simp only[mD]at hf;cases hfi:fs[i]? with
  |none=>simp[hfi]at hf
  |some x =>
   obtain⟨o,s,ag⟩:=x;simp only[hfi]at hf;split at hf
   .rename_i z' hs hput;have hs':=jX hs;obtain⟨hfit,rfl⟩:=lF hput;have hlen:us.length=c.length:=hL.len;have hzl:=hz.len
    have hnew:RepO w X M (zz.take o++us++zz.drop (o+us.length)) (z.take o++c++z.drop (o+c.length)):=by
     rw[hlen];exact((hz.take o).append hL).append (hz.drop _)
    obtain⟨us',h1,h2⟩:=KN hp (by simpa using hl) (λk p q a b=>hr (k+1) p q (by simpa using a) (by simpa using b)) hnew hf;refine⟨us', ?_,h2⟩;unfold Instr.fill;rw[hp i _ hfi];simp only[hu]
    have hc1:¬(us.toArray.size≠s||decide (o+us.toArray.size>zz.toArray.size))=true:=by
     simp;omega
    rw[if_neg hc1];have:=foldl_set o us zz 0 ω;simp only[Nat.add_zero]at this;have e2:us.toArray.zipIdx.foldl (λ(cs:Array Value) p=>cs.setIfInBounds (o+p.2) p.1) zz.toArray=(us.zipIdx 0).foldl (λ(cs:Array Value) p=>cs.setIfInBounds (o+p.2) p.1) zz.toArray:=by simp
    rw[e2,this];exact h1
   .cases hf
theorem Jk{X:List Nat}{place:Nat->Option (Nat×Nat)}{fs:List (Nat×Nat×Bool)}(hp:∀i x,fs[i]?=some x->place i=some (x.1,x.2.1)):∀{ps:List (Nat×Value)} {vs:List (Nat×List Cell)} {zz:List Value} {z cs:List Cell},ps.length=vs.length ->
 (∀(i:Nat) p q,ps[i]?=some p->vs[i]?=some q->p.1=q.1/\∃us,p.2.cells=us.toArray/\RepL w X us q.2)->RepL w X zz z->mD fs vs z=some cs->∃us,Instr.fill place zz.toArray ps=some us.toArray/\RepL w X us cs
 |[],[],zz,z,cs,_,_,hz,hf=>by simp[mD]at hf;subst hf;exact⟨zz,rfl,hz⟩
 |[],_::_,zz,z,cs,hl,_,hz,hf=>by simp at hl
 |_::_,[],zz,z,cs,hl,_,hz,hf=>by simp at hl
 |(i,u)::r,(j,c)::l,zz,z,cs,hl,hr,hz,hf=>by
  obtain⟨hij,us,hu,hL⟩:=hr 0 _ _ rfl rfl;simp only at hij hu;subst hij;simp only[mD]at hf;cases hfi:fs[i]? with
  |none=>simp[hfi]at hf
  |some x =>
   obtain⟨o,s,ag⟩:=x;simp only[hfi]at hf;split at hf
   .rename_i z' hs hput;have hs':=jX hs;obtain⟨hfit,rfl⟩:=lF hput;have hlen:us.length=c.length:=hL.len;have hzl:=hz.len
    have hnew:RepL w X (zz.take o++us++zz.drop (o+us.length)) (z.take o++c++z.drop (o+c.length)):=by
     rw[hlen];exact((hz.take o).append hL).append (hz.drop _)
    obtain⟨us',h1,h2⟩:=Jk hp (by simpa using hl) (λk p q a b=>hr (k+1) p q (by simpa using a) (by simpa using b)) hnew hf;refine⟨us', ?_,h2⟩;unfold Instr.fill;rw[hp i _ hfi];simp only[hu]
    have hc1:¬(us.toArray.size≠s||decide (o+us.toArray.size>zz.toArray.size))=true:=by
     simp;omega
    rw[if_neg hc1];have:=foldl_set o us zz 0 ω;simp only[Nat.add_zero]at this;have e2:us.toArray.zipIdx.foldl (λ(cs:Array Value) p=>cs.setIfInBounds (o+p.2) p.1) zz.toArray=(us.zipIdx 0).foldl (λ(cs:Array Value) p=>cs.setIfInBounds (o+p.2) p.1) zz.toArray:=by simp
    rw[e2,this];exact h1
   .cases hf
end
section
variable {P:Program} [Wld P] [Kp] [Gr] {τ:Tab} {N:Nat} {w0:World} {X0:List Nat} {S:List Bx} {M:MM} {a:Act} {w:World} {e:Env} {b:aZ}
variable {d:Option Nat} {ty:TypeId} {pos:String} {af:Array Edge} {gd:Option (Nat × Bool)} {k:AV->aZ->Prop}
theorem run_places:∀{fl:List Field} {fs:List (Nat×Nat×Bool)},pR P fl fs=true->(fl.mapM (m:=Sem) λf=>Prod.mk f.offset <$> sizeOf f.type).run P w=.ok (fs.map λx=>(x.1,x.2.1)) w
 |[],[],_=>by simp
 |f::r,x::l,h=>by
  simp only[pR,gX]at h;have ih:=run_places h.2;have h2:=h.1;simp only[KF,gX,decide_eq_true_eq]at h2
  have h3:(sizeOf f.type).run P w=.ok x.2.1 w:=by
   cases hq:P.info? f.type with
   |none=>have:=h2.1.1.2;simp[hq]at this
   |some i=>have:=h2.1.1.2;simp[hq]at this;simp[sizeOf,typeInfo,hq,this]
  have h1:(Prod.mk f.offset <$> sizeOf f.type).run P w=.ok (x.1,x.2.1) w:=by
   simp[h3,h2.1.1.1]
  rw[List.mapM_cons,Sem.run_bind,h1];simp only[Result.andThen_ok,Sem.run_bind,ih,Sem.run_pure,xZ]
 |[],_::_,h=>by simp[pR]at h
 |_::_,[],h=>by simp[pR]at h
theorem O7{s:Nat}:∀{n o i:Nat} {x:Nat×Nat×Bool},(EF s n o)[i]?=some x->i<n/\x=(o+i*s,s,false)
 |0,o,i,x,h=>by simp[EF]at h
 |n+1,o,0,x,h=>by simp[EF]at h;subst h;simp
 |n+1,o,i+1,x,h=>by
  simp only[EF,List.getElem?_cons_succ]at h;obtain⟨h1,h2⟩:=O7 h;refine⟨ω, ?_⟩;rw[h2];simp only[ou,and_true];rw[UY];omega
theorem UQ{t:TypeId}{ps:Array (Nat×Operand)}(hτ:dQ P τ=true)(h:Sta N w0 X0 S M a w e b)(hk:bZ (Den P) τ ⟨d,.build t ps,ty,pos,af,gd⟩ e b k):Good P w0 X0 S M a w ⟨d,.build t ps,ty,pos,af,gd⟩ k:=by
 unfold bZ at hk;simp only at hk;split at hk
 .rename_i n fs z ht;split at hk
  .have htt:=bU hτ ht;obtain⟨vs,hk1,hl1,hp1⟩:=FW h hk;cases hf:mD fs vs z with
   |none=>simp[hf]at hk1
   |some cs =>
    simp only[hf]at hk1;obtain⟨fl,hu,hfl⟩:=rowT htt;obtain⟨zz,hz,hzz⟩:=Bc htt rfl;have hzr:=(nP w (bl S++X0) hzz).o (M:=M)
    obtain⟨us,h1,h2⟩:=KN (M:=M) (X:=bl S++X0) (w:=w) (place:=λi=>((fs.map λx=>(x.1,x.2.1)).toArray)[i]?) (fs:=fs) (ps:=ps.toList.map λp=>(p.1,a.eval p.2)) (vs:=vs) (zz:=zz.toList) (z:=z) (cs:=cs)
     (λi x hx=>by simp[hx]) (by simpa using hl1) (λi p q hp hq=>by
      rw[MQ]at hp;cases hpp:ps.toList[i]? with
      |none=>simp[hpp]at hp
      |some p0=>simp[hpp]at hp;subst hp;exact hp1 i p0 q hpp hq) hzr hf
    refine⟨_,_,hk1,.inl ⟨.agg us.toArray,w, ?_,Post.pure h.ms (.ago h2)⟩⟩;unfold zeroOf at hz;cases hq:P.info? t with
    |none=>simp[hq]at hz
    |some i =>
     cases hzi:i.zero with
     |none=>simp[hq,hzi]at hz
     |some v =>
      simp[hq,hzi]at hz;have hr:=run_places (w:=w) hfl
      have hr':(fl.mapM (m:=Sem) λf=>Prod.mk f.offset <$> sizeOf f.type).run P w=.ok (fs.map λx=>(x.1,x.2.1)).toArray w:=by
       rw[qbQ];simp[hr]
      have h1':Instr.fill (λi=>((fs.map λx=>(x.1,x.2.1)).toArray)[i]?) v.cells (ps.map λp=>(p.1,a.eval p.2)).toList=some us.toArray:=by
       rw[hz,Array.toList_map];exact h1
      simp only[execOp,Instr.build,zeroValue,typeInfo,Sem.run_bind];simp[hq,hzi,run_underlying hu,hr'];simp at h1';simp[h1']
  .have htt:=bU hτ ht;obtain⟨vs,f,S1,M1,hk1,hm1,hc1,⟨hl1,hp1⟩,_⟩:=vP h hk;cases hf:mD fs vs z with
   |none=>simp[hf]at hk1
   |some cs =>
    simp only[hf]at hk1;obtain⟨fl,hu,hfl⟩:=rowT htt;obtain⟨zz,hz,hzz⟩:=Bc htt rfl;have hzr:=nP w (bl S1++X0) hzz
    obtain⟨us,h1,h2⟩:=Jk (X:=bl S1++X0) (w:=w) (place:=λi=>((fs.map λx=>(x.1,x.2.1)).toArray)[i]?) (fs:=fs) (ps:=ps.toList.map λp=>(p.1,a.eval p.2)) (vs:=vs) (zz:=zz.toList) (z:=z) (cs:=cs)
     (λi x hx=>by simp[hx]) (by simpa using hl1) (λi p q hp hq=>by
      rw[MQ]at hp;cases hpp:ps.toList[i]? with
      |none=>simp[hpp]at hp
      |some p0=>simp[hpp]at hp;subst hp;exact hp1 i p0 q hpp hq) hzr hf
    refine⟨_,_,hk1,.inl ⟨.agg us.toArray,w, ?_,hc1.post hm1 (.d (.agg h2))⟩⟩;unfold zeroOf at hz;cases hq:P.info? t with
    |none=>simp[hq]at hz
    |some i =>
     cases hzi:i.zero with
     |none=>simp[hq,hzi]at hz
     |some v =>
      simp[hq,hzi]at hz;have hr:=run_places (w:=w) hfl
      have hr':(fl.mapM (m:=Sem) λf=>Prod.mk f.offset <$> sizeOf f.type).run P w=.ok (fs.map λx=>(x.1,x.2.1)).toArray w:=by
       rw[qbQ];simp[hr]
      have h1':Instr.fill (λi=>((fs.map λx=>(x.1,x.2.1)).toArray)[i]?) v.cells (ps.map λp=>(p.1,a.eval p.2)).toList=some us.toArray:=by
       rw[hz,Array.toList_map];exact h1
      simp only[execOp,Instr.build,zeroValue,typeInfo,Sem.run_bind];simp[hq,hzi,run_underlying hu,hr'];simp at h1';simp[h1']
 .rename_i n s one z ht;have htt:=bU hτ ht;obtain⟨vs,f,S1,M1,hk1,hm1,hc1,⟨hl1,hp1⟩,_⟩:=vP h hk;cases hf:mD (EF s n 0) vs z with
  |none=>simp[hf]at hk1
  |some cs =>
   simp only[hf]at hk1;obtain⟨zz,hz,hzz⟩:=Bc htt rfl;have hzr:=nP w (bl S1++X0) hzz
   obtain⟨us,h1,h2⟩:=Jk (X:=bl S1++X0) (w:=w) (place:=λi=>some (i*s,s)) (fs:=EF s n 0) (ps:=ps.toList.map λp=>(p.1,a.eval p.2)) (vs:=vs) (zz:=zz.toList) (z:=z) (cs:=cs)
    (λi x hx=>by have:=O7 hx;simp[this.2]) (by simpa using hl1) (λi p q hp hq=>by
     rw[MQ]at hp;cases hpp:ps.toList[i]? with
     |none=>simp[hpp]at hp
     |some p0=>simp[hpp]at hp;subst hp;exact hp1 i p0 q hpp hq) hzr hf
   refine⟨_,_,hk1,.inl ⟨.agg us.toArray,w, ?_,hc1.post hm1 (.d (.agg h2))⟩⟩;unfold zeroOf at hz;simp only[iQ,gX]at htt;have hu:=htt.2;split at hu
   .rename_i m e' he;simp only[gX,decide_eq_true_eq]at hu;obtain⟨rfl,h3⟩:=hu;cases hq:P.info? t with
    |none=>simp[hq]at hz
    |some i =>
     cases hzi:i.zero with
     |none=>simp[hq,hzi]at hz
     |some v =>
      simp[hq,hzi]at hz
      have hse:(sizeOf e').run P w=.ok s w:=by
       cases hq2:P.info? e' with
       |none=>simp[hq2]at h3
       |some j=>simp[hq2]at h3;simp[sizeOf,typeInfo,hq2,h3]
      have h1':Instr.fill (λi=>some (i*s,s)) v.cells (ps.map λp=>(p.1,a.eval p.2)).toList=some us.toArray:=by
       rw[hz,Array.toList_map];exact h1
      simp only[execOp,Instr.build,zeroValue,typeInfo,Sem.run_bind];simp[hq,hzi,run_underlying he,hse];simp at h1';simp[h1']
   .cases hu
 .cases hk
theorem La{X:List Nat}{s:Nat}:∀{ps:List (Nat×Value)} {vs:List (Nat×List Cell)} {k0:Nat} {es:List (List Cell)} {done zs:List Value},ps.length=vs.length ->
 (∀(i:Nat) p q,ps[i]?=some p->vs[i]?=some q->p.1=k0+i/\∃us,p.2.cells=us.toArray/\RepL w X us q.2)->yV s vs ps.length=some es->done.length=k0*s->zs.length=ps.length*s ->
 ∃uss,Instr.fill (λi=>some (i*s,s)) (done++zs).toArray ps=some (done++uss.flatten).toArray/\RepS w X s uss es
 |[],[],k0,es,done,zs,_,_,hl,_,hz=>by
  simp[yV]at hl;subst hl;have:zs=[]:=UR (by simpa using hz);subst this;exact⟨[],by simp[Instr.fill],.nil _ _ _⟩
 |[],_::_,_,_,_,_,h,_,_,_,_=>by simp at h
 |_::_,[],_,_,_,_,h,_,_,_,_=>by simp at h
 |(i,u)::r,(j,c)::l,k0,es,done,zs,hlen,hr,hl,hd,hz=>by
  obtain⟨hi,us,hu,hL⟩:=hr 0 _ _ rfl rfl;simp only[Nat.add_zero]at hi hu;subst hi;simp only[ji,yV]at hl;cases hq:yV s l r.length with
  |none=>simp[hq]at hl
  |some es' =>
   simp only[hq]at hl;cases hs:Nat.beq c.length s with
   |false=>simp[hs]at hl
   |true =>
    simp only[hs,cond_true,qH]at hl;subst hl;have hcs:=jX hs;have hul:us.length=c.length:=hL.len;simp only[ji,UY]at hz;have hsplit:zs=zs.take s++zs.drop s:=(RP s zs).symm;have hts:(zs.take s).length=s:=by rw[xB];omega
    obtain⟨uss,h1,h2⟩:=La (ps:=r) (vs:=l) (k0:=i+1) (es:=es') (done:=done++us) (zs:=zs.drop s) (by simpa using hlen) (λq p q' hp hq'=>by
     obtain⟨e1,e2⟩:=hr (q+1) p q' (by simpa using hp) (by simpa using hq')
     exact⟨ω,e2⟩) hq (by rw[rQ,hd,hul,hcs,UY]) κ
    refine⟨us::uss, ?_,by simp[h2.len],λx hx=>?_,λq us' ee hq1 hq2=>?_⟩
    .unfold Instr.fill;simp only[hu]
     have hc1:¬(us.toArray.size≠s||decide (i*s+us.toArray.size>(done++zs).toArray.size))=true:=by
      simp;omega
     rw[if_neg hc1];have hf:=foldl_set (i*s) us (done++zs) 0 κ;have e2:us.toArray.zipIdx.foldl (λ(cs:Array Value) p=>cs.setIfInBounds (i*s+p.2) p.1) (done++zs).toArray=(us.zipIdx 0).foldl (λ(cs:Array Value) p=>cs.setIfInBounds (i*s+p.2) p.1) (done++zs).toArray:=by simp
     rw[e2,hf]
     have e3:(done++zs).take (i*s+0)++us++(done++zs).drop (i*s+0+us.length)=done++us++zs.drop s:=by
      rw[Nat.add_zero,<-hd,List.take_left' rfl,List.drop_length_add_append,hul,hcs]
     rw[e3,h1];simp
    .rcases jA.1 hx with rfl|hx
     .omega
     .exact h2.sz x hx
    .cases q with
     |zero=>simp at hq1 hq2;subst hq1 hq2;exact hL
     |succ q=>exact h2.get q us' ee (by simpa using hq1) (by simpa using hq2)
theorem Dt:∀{ps:List (Nat×Operand)} {n:Nat},inOrder n ps=true->∀{i:Nat} {p:Nat×Operand},ps[i]?=some p->p.1=n+i
 |[],n,_,i,p,h=>by simp at h
 |(j,x)::r,n,ho,i,p,h=>by
  simp only[inOrder]at ho;cases hb:Nat.beq n j with
  |false=>simp[hb]at ho
  |true =>
   simp only[hb,cond_true]at ho;have:=jX hb;subst this;cases i with
   |zero=>simp at h;subst h;rfl
   |succ i=>have:=Dt ho (i:=i) (p:=p) (by simpa using h);omega
theorem MO{s:Nat}:∀{vs:List (Nat×List Cell)} {n:Nat} {es:List (List Cell)},yV s vs n=some es->vs.length=n/\es.length=n
 |[],0,es,h=>by simp[yV]at h;subst h;simp
 |[],n+1,es,h=>by simp[yV]at h
 |_::_,0,es,h=>by simp[yV]at h
 |(i,c)::r,n+1,es,h=>by
  simp only[yV]at h;cases hq:yV s r n with
  |none=>simp[hq]at h
  |some l =>
   simp only[hq]at h;obtain⟨h1,h2⟩:=MO hq;cases hb:Nat.beq c.length s with
   |false=>simp[hb]at h
   |true=>simp[hb]at h;subst h;simp[h1,h2]
theorem MS.alloc_(h:MS w0 w S M)(o:Obj):MS w0 (w.alloc o) S M:=⟨h.st.alloc_ o,h.gh.kept (Gh o),h.inS,h.inj⟩
theorem MS.call(h:MS w0 w S M){w':World}(hb:Below w.heap.size w w'):MS w0 w' S M:=⟨h.st.call hb,h.gh.kept (Fq hb),h.inS,h.inj⟩
theorem Chg.ext_{X X':List Nat}{w' w'':World}{M':MM}{al:List Nat}{f:aZ}(h:Chg w X M w' X' M' al f)(he:Ext w' X' w'' X'):Chg w X M w'' X' M' al f :=
 ⟨h.ext.trans he,h.same,h.comp,λi x hx=>by obtain⟨m',h1,h2⟩:=h.new i x hx;exact⟨m',h1,h2.ext0 he⟩⟩
theorem sliceT{t e':TypeId}{s by_:Nat}{z:List Cell}(h:iQ P t (.slice e' s by_ z)=true):0<s/\sliceOf P t=some (e',s)/\∃zz,Sw.elemOf P e'=some (zz,s,by_)/\vZ zz.toList z=true/\zz.size=s:=by
 simp only[iQ,gX,decide_eq_true_eq]at h;refine⟨by have:=h.1.1.1.2;omega,h.1.1.2, ?_⟩;have h2:=h.2;split at h2
 .rename_i zz s' b' he;simp only[gX,decide_eq_true_eq]at h2;obtain⟨⟨⟨q1,rfl⟩,rfl⟩,q2⟩:=h2;exact⟨zz,he,q1,q2⟩
 .cases h2
theorem Vu{t e:TypeId}{s:Nat}{cs:Array Value}{parts:Array (Nat×Value)}(ht:sliceOf P t=some (e,s))(hfill:Instr.fill (λi=>some (i*s,s)) #[] parts.toList=some cs):
 (Instr.buildSlice t 0 parts).run P w=.ok (.slice (some ⟨w.heap.size,0,none⟩) 0 0) (w.alloc (.cells cs e)):=by
 unfold sliceOf at ht;split at ht
 .rename_i e' hu;cases hq:P.info? e' with
  |none=>simp[hq]at ht
  |some i =>
   simp only[hq,vI,qH,ou]at ht;obtain⟨rfl,rfl⟩:=ht
   have hz:∀f:Nat->Value,(Array.range (0*i.size)).map f = #[]:=λf=>by
    apply Jv;simp
   have hz2:Array.map (λ_:Nat=>(default:Value)) (Array.range 0) = #[]:=Jv η;simp only[Instr.buildSlice,Sem.run_bind,run_underlying hu,Result.andThen_ok,sizeOf,typeInfo];simp[hq,hz2];rw[hfill];simp[newRow]
 .cases ht
theorem DV{t:TypeId}{n:Nat}{ps:Array (Nat×Operand)}(hτ:dQ P τ=true)(h:Sta N w0 X0 S M a w e b)(hk:bZ (Den P) τ ⟨d,.buildSlice t n ps,ty,pos,af,gd⟩ e b k):Good P w0 X0 S M a w ⟨d,.buildSlice t n ps,ty,pos,af,gd⟩ k:=by
 unfold bZ at hk;simp only at hk;split at hk
 .rename_i e' s by_ z ht ho;obtain⟨hs0,hsl,zz,hel,hzz,hzs⟩:=sliceT (bU hτ ht);obtain⟨vs,f,S1,M1,hk1,hm1,hc1,⟨hl1,hp1⟩,hfo⟩:=vP h hk;split at hk1
  .rename_i es hlit hle;have hnl:n*s<=16777216:=by simpa[Nat.ble_eq]using hle
   obtain⟨hvn,hen⟩:=MO hlit
   obtain⟨uss,h1,h2⟩:=La (w:=w) (X:=bl S1++X0) (s:=s) (ps:=ps.toList.map λp=>(p.1,a.eval p.2)) (vs:=vs) (k0:=0) (es:=es) (done:=[]) (zs:=(madeCells zz (n*s)).toList) (by simpa using hl1) (λi p q hp hq=>by
    rw[MQ]at hp;cases hpp:ps.toList[i]? with
    |none=>simp[hpp]at hp
    |some p0 =>
     simp[hpp]at hp;subst hp
     exact⟨Dt ho hpp,(hp1 i p0 q hpp hq).2⟩) (by rw[bW,hl1,hvn];exact hlit) η (by rw[qbK,size_madeCells,bW,hl1,hvn])
   simp only[qbN]at h1
   have hrun:(Instr.buildSlice t n (ps.map λp=>(p.1,a.eval p.2))).run P w=.ok (.slice (some ⟨w.heap.size,0,none⟩) n n) (w.alloc (.cells uss.flatten.toArray e')):=by
    rcases yD (n*s)with h0|h0
    .have hn0:n=0:=by
      rcases yD n with k0|k0
      .exact k0
      .have:=Nat.mul_pos k0 hs0;omega
     subst hn0;have hemp:(madeCells zz (0*s)).toList=[]:=UR (by rw[qbK,size_madeCells];simp);rw[hemp]at h1;exact Vu hsl (by rw[Array.toList_map];exact h1)
    .have h0':n*s≠0:=Nat.ne_of_gt h0;have hq:=Py (P:=P) (w:=w) (n:=n) (parts:=ps.map λp=>(p.1,a.eval p.2)) hsl hel hnl h0' (by rw[Array.toList_map];simpa using h1);exact hq
   have hX:∀m∈bl S1++X0,m<w.heap.size:=(h.chg hm1 hc1).bnd
   have hexec:(execOp a.eval ⟨d,.buildSlice t n ps,ty,pos,af,gd⟩).run P w=.ok (.value (.slice (some ⟨w.heap.size,0,none⟩) n n)) (w.alloc (.cells uss.flatten.toArray e')):=by
    simp only[execOp,Sem.run_bind];rw[hrun];simp
   have hnle:n<=16777216:=fZ (Nat.le_mul_of_pos_right n hs0) hnl;split at hk1
   .split at hk1
    .rename_i i;split at hk1
     .rename_i hfd;have hms:=hm1.alloc (i:=i) (m:=⟨false,true,some w.heap.size,e',s,n,n,uss.flatten,none⟩) rfl rfl rfl rfl;have hext:Ext w (bl S1++X0) (w.alloc (.cells uss.flatten.toArray e')) (bl ((w.heap.size,e',uss.flatten.toArray)::S1)++X0):=Ext.alloc _ _ _
      have hc2:Chg w (bl S1++X0) M1 (w.alloc (.cells uss.flatten.toArray e')) (bl ((w.heap.size,e',uss.flatten.toArray)::S1)++X0) (M1.set i ⟨false,true,some w.heap.size,e',s,n,n,uss.flatten,none⟩) [i] [(i,.grow e' s es)]:=by
       refine⟨hext,λc hc=>MM.set_other _ _ (by simpa using hc),λc mc hc hci=>⟨mc,by rw[MM.set_other _ _ (by simpa using hci),hc],Comp.refl _⟩,λc x hx=>?_⟩;simp only[pI,ou]at hx;obtain⟨rfl,rfl⟩:=hx;refine⟨_,MM.set_same _ _ _,rfl,rfl,rfl,⟨rfl,hs0⟩,by simp[hen],.inr ⟨_,uss,[],rfl,η,h2.ext hext, ?_,by unfold maxLen;simp only;omega,jg _⟩⟩;simp only[fC h2.sz,h2.len,hen]
      refine⟨_,_,hk1,.inl ⟨_,_,hexec,(hc1.trans hc2 (λc hc=>?_) hfo.obs).post hms (.gs (MM.set_same _ _ _) rfl (jg _) (λ_=>rfl) ⟨_,_,rfl⟩)⟩⟩;simp only[xZ,List.map_nil,pI]at hc;subst hc;intro hm;obtain⟨p,hp,hpe⟩:=iV.1 hm;have:=JX.1 hfd p hp;rw[hpe]at this;simp at this
     .cases hk1
    .cases hk1
   .have hext:=Ext.alloc_ w (bl S1++X0) (.cells uss.flatten.toArray e');have hcl:=Cl.of_new hX uss.flatten.toArray e';refine⟨_,_,hk1,.inl ⟨_,_,hexec,((hc1.ext_ hext).al).post (hm1.alloc_ _) (.d (.c ?_))⟩⟩;have:=(h2.ext hext).sl (A:=some ⟨w.heap.size,0,none⟩) (cap:=n) (by simpa using hcl) ω ω
    rwa [hen]at this
  .exact False.elim hk1
 .cases hk
end
end Go.Sw
