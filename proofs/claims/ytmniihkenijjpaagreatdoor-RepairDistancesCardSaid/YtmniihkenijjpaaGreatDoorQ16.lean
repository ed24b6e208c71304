/-
  Rules of the abstract run, plain laws, and what functions answer, for the law RepairDistances.
  Conditions: none.
-/
import Derived.Test.YtmniihkenijjpaaGreatDoorQ15
import Derived.Shelf.LaysM
import Derived.Shelf.Strconv.Itoa1
import Derived.Shelf.Strconv.Itoa2
import Derived.Lib.Walk
import Derived.Lib.ItoaMem
import Derived.Lib.ItoaLen
import Derived.Lib.AppendIntMem
import Derived.WalkKit
import Derived.BigCall
import Derived.BigGuard
import Derived.Shelf.SlicesE.Clone
set_option linter.all false
namespace Go.Proofs.YtmniihkenijjpaaGreatDoor
open Go Go.RowKit Go.Sw
set_option maxRecDepth 100000
set_option maxHeartbeats 8000000
set_option synthInstance.maxSize 4000
set_option synthInstance.maxHeartbeats 400000
def F9:Tab:=(133,.row 5 [(0,1,false),(1,4,true)] [.v (.map none),.v (.bool false),.sl 1 [],.v (.bool false),.sl 1 []]) :: tabs
theorem lq:dR Tryz.prog F9=true:=by kernel_rfl
theorem Cj{a b c d:Rat}(ha:rz a≤12)(hb:rz b≤12)(hc:rz c≤12)(hd:rz d≤12):rz (iH (a,b) (c,d))≤10000000:=by
 have i1:RzB a 12:=⟨ha⟩
 have i2:RzB b 12:=⟨hb⟩
 have i3:RzB c 12:=⟨hc⟩
 have i4:RzB d 12:=⟨hd⟩
 show rz ((a-c)*(a-c)+(b-d)*(b-d))≤10000000;exact uN (by omega)
set_option maxHeartbeats 16000000 in
theorem adU(sq:Rat)(sp:dX)(n:Nat)(s:ByteArray)(v:P2)(hs:s.size≤1000)(ha:rz v.1≤12)(hb0:rz v.2≤12)(hq:rz sq≤1000)(hn:n≤1000000)(hsp:∀p∈aZ sp s,rz p.1≤12∧rz p.2≤12)(hll:(aZ sp s).length≤1000000):
 aaH Tryz.prog 92 (Gi Tryz.prog 9 45 8 (GV sq sp n)) [.c (.v (.string s)),.agg (bn v)] (Gi Tryz.prog 9 45 8 (GV sq (dw sq sp s v).1 (n+1))) (.agg (bn (dw sq sp s v).2)):=by
 refine ⟨by kernel_rfl, ?_⟩;intro w X g T us vs more mo hW hX hg hmore hnd hgc hmap hrep hvl hr;obtain ⟨g0,es,ck⟩:=mo;obtain ⟨us',rfl,hsq,hF,hes,val,og,hval,hsl,hinj⟩:=hrep;simp only at hmap hF hes hval
 match vs,hvl with
 |[u1,u2],_ =>
 have h1:=hr 0 u1 _ rfl rfl;have h2:=hr 1 u2 _ rfl rfl;obtain rfl:=h1.v
 obtain ⟨us2,rfl,hv2⟩:∃us2:List Value,u2=.agg us2.toArray∧RepL w X us2 (bn v):=by
  cases h2 with
  |agg h=>exact ⟨_,rfl,h⟩
 have hl2:us2.length=8:=hv2.len
 haveI:WOk Tryz.prog w:=⟨hW⟩
 obtain ⟨X1,hX1⟩:∃X1:List Nat,∀x∈X1,x∈X∧x≠g∧x ∉ bl more:=⟨X.filter λx=>!(decide (x=g)) && !(decide (x∈bl more)),λx hx=>by
  obtain ⟨q1,q2⟩:=List.mem_filter.1 hx;simp only [Bool.and_eq_true,Bool.not_eq_true',decide_eq_false_iff_not] at q2
  exact ⟨q1,q2.1,q2.2⟩⟩
 have hE1:Ext w X w X1:=Ext.drop λx hx=>(hX1 x hx).1
 have hptr:RepD w X1 (.pointer (some ⟨g,0,none⟩)) (.c (.p (.v (.map (some g0)) :: oZ sq))):=by
  have hcl:=Cl.of_block (X:=X1) hgc (λhx=>(hX1 g hx).2.1 rfl) (Value.map (some g0) :: us').length;rw [List.toList_toArray,List.take_length] at hcl;exact .c (Io hcl (.cons (.v _ rfl) (hsq.ext hE1)))
 generalize hL:aZ sp s=L at hsp hll;have hfs:(GV sq sp n).f s=L.map bn:=by show (aZ sp s).map bn=_;rw [hL]
 have hslot:=hsl s;rw [hfs] at hslot;have hlay:RepD w X1 (val s) (.c (.sl 8 (L.map bn))):=.c (hslot.data (λq hq=>(hmore q hq).2.2) (λx hx=>⟨(hX1 x hx).1,(hX1 x hx).2.2⟩));have hg0:g0<w.heap.size:=lt_of_heap hmap;have hgl:g<w.heap.size:=lt_of_heap hgc;have i1:RzB v.1 12:=⟨ha⟩
 have i2:RzB v.2 12:=⟨hb0⟩
 have hgd:∀i,rz (L.getD i P0).1≤12∧rz (L.getD i P0).2≤12:=λi=>by
  by_cases hi:i<L.length
  ·have:L.getD i P0=L[i]:=by simp [List.getD_eq_getElem?_getD,hi]
   rw [this];exact hsp _ (List.getElem_mem hi)
  ·have:L.getD i P0=P0:=by simp [List.getD_eq_getElem?_getD,Nat.le_of_not_lt hi]
   rw [this];decide +kernel
 have i3:RzB sq 1000:=⟨hq⟩
 refine enter (vs:=[_,_,_]) Tryz.func92 rfl rfl rfl λa hFr=>?_
 have hc:=uD (N:=68) (w:=w) (X:=X1) (xs:=[.c (.p (.v (.map (some g0)) :: oZ sq)),.c (.v (.string s)),.agg (bn v)]) (vs:=[.pointer (some ⟨g,0,none⟩),.string s,.agg us2.toArray]) (a:=a) (λm hm=>hX m (hX1 m hm).1) rfl (λi u y hu hv=>by
  match i,hu,hv with
  |0,hu,hv=>cases hu;cases hv;exact hptr
  |1,hu,hv=>cases hu;cases hv;exact .c (.v _ rfl)
  |2,hu,hv=>cases hu;cases hv;exact h2.ext hE1) hFr
 have hc:=Conc.keep [(0,.pointer (some ⟨g,0,none⟩))] hc (λt u h=>by
  simp only [List.mem_singleton,Prod.mk.injEq] at h;obtain ⟨rfl,rfl⟩:=h
  exact hFr.get 0 _ rfl)
 refine aC (aF (wp1 rfl (J8 (hFr.get 2 _ rfl)) ?_));have hc:=hc.boxF (t:=5) (T:=45) (us:=us2) (cs:=bn v) (hv2.ext hE1) (λg o h=>nomatch h) ⟨by decide,rfl⟩
 letI kp1:Kp:=⟨[(5,.pointer (some ⟨w.heap.size,0,none⟩)),(0,.pointer (some ⟨g,0,none⟩))],[(w.heap.size,.cells us2.toArray 45 (0,0))]⟩
 replace hc : @Conc kp1 68 w X1 _ _ _ _:=hc;refine zA lq (k:=λe b=>SubE [(0,.c (.p (.v (.map (some g0)) :: oZ sq))),(1,.c (.v (.string s))),(5,.c (.p (bn v))),(6,.ptr 6 0)] e∧SubB [(6,.var [.v (.bool false),.sl 1 [],.v (.bool false),.sl 1 [],.v (.bool false),.sl 1 [],.v (.bool false),.sl 1 []])] b) ?_ (by kernel_rfl) ?_ hc
 case refine_2 =>
  exact ⟨⟨rfl,rfl,rfl,rfl,trivial⟩,⟨rfl,trivial⟩⟩
 rintro e b a w1 ⟨he,hb⟩ hc;replace hc:=hc.sub he hb;refine cZ ?_;refine aC (jD (τ:=F9) lq fF _ (QA:=λz e b=>z=.normal∧SubE [(0,.c (.p (.v (.map (some g0)) :: oZ sq))),(1,.c (.v (.string s))),(5,.c (.p (bn v))),(6,.ptr 6 0),(7,.int .i64 (-1))] e∧SubB [(6,.var [.v (.bool false),.sl 1 [],.v (.bool false),.sl 1 [],.v (.bool false),.sl 1 [],.v (.bool false),.sl 1 []])] b) (by kernel_rfl) ?_ hc ?_)
 case refine_1 =>
  exact ⟨rfl,⟨rfl,rfl,rfl,rfl,rfl,trivial⟩,⟨rfl,trivial⟩⟩
 rintro x e b a w1 ⟨rfl,he,hb⟩ hc;replace hc:=hc.sub he hb;refine cZ ?_;have hF0:Frm 68 a [(0,.pointer (some ⟨g,0,none⟩)),(1,.string s)]:=(hc.frm.cons (hc.get (t:=1) rfl (by simp))).cons (hc.kp (.tail _ (.head _)));have hgw:w1.heap[g]?=some (.cells (Value.map (some g0) :: us').toArray T (0,0)):=(hc.sz.2.2.block g hgl).trans hgc;refine aC (aF ?_);refine wp1 rfl (bT (hF0.ev rfl)) ?_;replace hF0:=hF0.put (d:=12) (by decide) (.pointer (some ⟨g,0,none⟩));replace hc:=hc.putA (t:=12) (u:=.pointer (some ⟨g,0,none⟩)) ⟨by decide,rfl⟩;refine wp1 rfl (OE (hF0.ev rfl)) ?_;replace hF0:=hF0.put (d:=13) (by decide) (.pointer (some ⟨g,0,none⟩));replace hc:=hc.putA (t:=13) (u:=.pointer (some ⟨g,0,none⟩)) ⟨by decide,rfl⟩;refine wp1 rfl (gW (off:=0) (by kernel_rfl) (hF0.ev rfl)) ?_;replace hF0:=hF0.put (d:=14) (by decide) (.pointer (some ⟨g,0,none⟩));replace hc:=hc.putA (t:=14) (u:=.pointer (some ⟨g,0,none⟩)) ⟨by decide,rfl⟩;refine wp1 rfl (iw (v:=.map (some g0)) (by kernel_rfl) (hF0.ev rfl) hgw rfl) ?_;replace hF0:=hF0.put (d:=15) (by decide) (.map (some g0));replace hc:=hc.putA (t:=15) (u:=.map (some g0)) ⟨by decide,rfl⟩;refine wp1 rfl (bT (hF0.ev rfl)) ?_;replace hF0:=hF0.put (d:=16) (by decide) (.string s);replace hc:=hc.putA (t:=16) (u:=.string s) ⟨by decide,rfl⟩;refine wp1 rfl (Qy (g0:=g0) (k:=.string s) (v:=val s) (hF0.ev rfl) (hF0.ev rfl) (acS Tryz.underlying9 Tryz.underlying131 Tryz.zeroValue53 hF ((hc.sz.2.2.block g0 hg0).trans hmap) hval s (by unfold maxLen;omega))) ?_;replace hF0:=hF0.put (d:=17) (by decide) (val s);replace hc:=hc.putD (t:=17) (u:=val s) ⟨by decide,rfl⟩ hlay;refine wp1 rfl (jO (v:=val s) (hF0.ev rfl)) ?_;replace hF0:=hF0.put (d:=8) (by decide) (val s);replace hc:=hc.putD (t:=8) (u:=val s) ⟨by decide,rfl⟩ hlay
 have hc:=Conc.keep [(8,val s),(5,.pointer (some ⟨w.heap.size,0,none⟩)),(0,.pointer (some ⟨g,0,none⟩))] hc (λt u h=>by
  rcases List.mem_cons.1 h with h|h
  ·cases h;exact hF0.get 8 _ rfl
  ·exact hc.kp h)
 letI kp2:Kp:=⟨[(8,val s),(5,.pointer (some ⟨w.heap.size,0,none⟩)),(0,.pointer (some ⟨g,0,none⟩))],[(w.heap.size,.cells us2.toArray 45 (0,0))]⟩
 replace hc : @Conc kp2 68 w X1 _ _ _ _:=hc;refine (show Exit.then _ _ .normal _ _ from cZ ?_);refine aC (jD (τ:=F9) lq fF _ (QA:=λz e b=>z=.normal∧SubE [(0,.c (.p (.v (.map (some g0)) :: oZ sq))),(1,.c (.v (.string s))),(5,.c (.p (bn v))),(6,.ptr 6 0),(7,.int .i64 (gy sq v L L.length)),(8,.c (.sl 8 (L.map bn)))] e∧SubB [(6,.var [.v (.bool false),.sl 1 [],.v (.bool false),.sl 1 [],.v (.bool false),.sl 1 [],.v (.bool false),.sl 1 []])] b) (by kernel_rfl) ?_ hc ?_)
 case refine_1 =>
  all_goals first
   |((conv=>whnf);refine Sw.Loop.inv (α:=Nat) (λx=>[(0,.c (.p (.v (.map (some g0)) :: oZ sq))),(1,.c (.v (.string s))),(5,.c (.p (bn v))),(6,.ptr 6 0),(7,.int .i64 (gy sq v L x)),(8,.c (.sl 8 (L.map bn))),(18,.c (.sl 8 (L.map bn))),(19,.int .i64 (L.length:Nat)),(20,.int .i64 x)]) (λx=>[(6,.var [.v (.bool false),.sl 1 [],.v (.bool false),.sl 1 [],.v (.bool false),.sl 1 [],.v (.bool false),.sl 1 []])]) (λx=>x≤L.length) (λx=>L.length-x) 0 ?_ ?_ ?_ (λx hx=>?_))
  all_goals (repeat' ((try (conv=>whnf));first
   |refine ak ?_ ?_
   |(with_reducible refine aJ ?_)
   |(with_reducible refine aK ?_)
   |(with_reducible refine au (λ_=>?_) (λ_=>?_))
   |refine Drw.mk (by kernel_rfl) ?_
   |refine aN P0 ?_ ?_))
  all_goals (try refine Pr.mk ?_)
  all_goals first|(show SubE _ _;repeat' (first|exact trivial|refine And.intro ?_ ?_))|(show SubB _ _;repeat' (first|exact trivial|refine And.intro ?_ ?_))|skip
  all_goals (try rfl)
  all_goals (try (simp only [List.length_map];rfl))
  all_goals (try (have hbo:=rJ sq v L x (by omega)))
  all_goals (try simp only [List.length_map,Int.toNat_natCast] at *)
  all_goals (try simp only [dU] at *)
  all_goals first
   |exact Nat.zero_le _
   |omega
   |exact ⟨Nat.le_trans ha (by decide),Nat.le_trans hb0 (by decide),Nat.le_trans (hgd _).1 (by decide),Nat.le_trans (hgd _).2 (by decide)⟩
   |exact ⟨Cj ha hb0 (hgd _).1 (hgd _).2,Nat.le_trans hq (by decide)⟩
   |exact ⟨Cj ha hb0 (hgd _).1 (hgd _).2,Cj ha hb0 (hgd _).1 (hgd _).2⟩
   |((conv=>whnf);exact ⟨x+1,⟨⟨rfl,rfl,rfl,rfl,(by have hb1:gy sq v L (x+1)=(x:Int):=(by first|exact if_pos ⟨by assumption,.inl (by omega)⟩|exact if_pos ⟨by assumption,.inr (by assumption)⟩);show some (AV.int IntKind.i64 ((x:Int)))=_;rw [hb1]),rfl,rfl,rfl,aX (by omega),trivial⟩,⟨rfl,trivial⟩,by omega,(by show L.length-(x+1)<L.length-x;omega)⟩⟩)
   |((conv=>whnf);exact ⟨x+1,⟨⟨rfl,rfl,rfl,rfl,(by have hb1:gy sq v L (x+1)=gy sq v L x:=(by first|exact if_neg (λh=>absurd h.1 (by assumption))|exact if_neg (λh=>h.2.elim (λh=>by omega) (λh=>absurd h (by assumption))));show some (AV.int IntKind.i64 (gy sq v L x))=_;rw [hb1]),rfl,rfl,rfl,aX (by omega),trivial⟩,⟨rfl,trivial⟩,by omega,(by show L.length-(x+1)<L.length-x;omega)⟩⟩)
   |((conv=>whnf);rename_i hh;have hxx:x=L.length:=(by omega);subst hxx;exact ⟨by first|trivial|rfl,⟨rfl,rfl,rfl,rfl,rfl,rfl,trivial⟩,⟨rfl,trivial⟩⟩)
 rintro x e b a w1 ⟨rfl,he,hb⟩ hc;replace hc:=hc.sub he hb;refine cZ ?_;refine aC ?_;refine aC (jD (τ:=F9) lq fF _ (QA:=λz e b=>z=.normal∧SubE [(0,.c (.p (.v (.map (some g0)) :: oZ sq))),(1,.c (.v (.string s))),(5,.c (.p (bn v))),(6,.ptr 6 0),(7,.int .i64 (gy sq v L L.length)),(8,.c (.sl 8 (L.map bn))),(53,.bool (decide (gy sq v L L.length≥0)))] e∧SubB [(6,.var [.v (.bool false),.sl 1 [],.v (.bool false),.sl 1 [],.v (.bool false),.sl 1 [],.v (.bool false),.sl 1 []])] b) (by kernel_rfl) ?_ hc ?_)
 case refine_1 =>
  exact ⟨rfl,⟨rfl,rfl,rfl,rfl,rfl,rfl,rfl,trivial⟩,⟨rfl,trivial⟩⟩
 rintro x e b a w1 ⟨rfl,he,hb⟩ hc;replace hc:=hc.sub he hb;refine cZ ?_;obtain ⟨b1,b2,b3⟩:=rJ sq v L L.length (Nat.le_refl _);have hk8:a.tmps.getD 8 undef=val s:=hc.kp (.head _);obtain ⟨g6,T6,cs6,v6,hg6,hh6,hr6⟩:=hc.var (t:=6) (i:=6) rfl rfl;have hB:=hc.sz.2.2;have hl6:cs6.size=8:=by have:=hr6.len;simpa using this
 have hFm:Frm 68 a [(0,.pointer (some ⟨g,0,none⟩)),(1,.string s),(5,.pointer (some ⟨w.heap.size,0,none⟩)),(6,.pointer (some ⟨g6,0,none⟩)),(8,val s),(7,.int .i64 (gy sq v L L.length))] :=
  (((((hc.frm.cons (hc.get (t:=7) rfl (by simp))).cons hk8).cons v6).cons (hc.kp (.tail _ (.head _)))).cons (hc.get (t:=1) rfl (by simp))).cons (hc.kp (.tail _ (.tail _ (.head _))))
 have hg5:w1.heap[w.heap.size]?=some (.cells us2.toArray 45 (0,0)):=hc.kh (.head _);have hsz45:(Tryz.prog.info? 45).map (·.size)=some 8:=by kernel_rfl
 have hrow:isRow Tryz.prog 45 8=true:=by kernel_rfl
 obtain ⟨_,hsl45,z45,hel45,_,hz45⟩:=sliceT (bD lq (t:=53) rfl);have hmo:∀q∈more,q.1∈X∧w.heap[q.1]?=some (.cells q.2.2 q.2.1 (0,0)):=λq hq=>⟨(hmore q hq).1,(hmore q hq).2.2⟩
 refine wp_cond_split (hc.get (t:=53) rfl (by simp)) (λhp=>?_) (λhp=>?_)
 case refine_1 =>
  have hbi:0≤gy sq v L L.length:=of_decide_eq_true hp;obtain ⟨j,hj⟩:=Int.eq_ofNat_of_zero_le hbi;have hjl:j<L.length:=by omega
  obtain ⟨gl,cap,uss,rest,hv,hogs,hmem,hrs,hcap,hle⟩:=hslot.inv (by simp;omega);have hgl':=(hmore _ hmem).2.2;have hgl4:w1.heap[gl]?=some (.cells (uss.flatten++rest).toArray 45 (0,0)):=(hB.block gl (lt_of_heap hgl')).trans hgl';have hul:uss.length=L.length:=by rw [hrs.len];simp
  have hju:j<uss.length:=by omega
  have hRj:RepL w X uss[j] (bn (L.getD j P0)):=hrs.get j _ _ (List.getElem?_eq_getElem hju) (by simp [List.getD_eq_getElem?_getD,hjl]);have hl8:(uss[j]).length=8:=hRj.len;have hfl8:(uss.flatten).length=uss.length*8:=dD hrs.sz
  have hcut:(uss.flatten++rest).toArray.extract (j*8) (j*8+8)=uss[j].toArray:=by
   apply Array.ext';apply List.ext_getElem?;intro i;simp only [Array.toList_extract,List.extract_eq_drop_take,List.toList_toArray];rw [List.getElem?_take]
   by_cases hi:i<8
   ·rw [if_pos (by omega),List.getElem?_drop,List.getElem?_append_left (by omega),gq hrs.sz (List.getElem?_eq_getElem hju) i hi]
   ·rw [if_neg (by omega),List.getElem?_eq_none (by omega)]
  have hex:j*8+8≤(uss.flatten++rest).toArray.size:=by simp only [List.size_toArray,List.length_append];omega
  rw [hj,hv,List.length_map] at hFm;have hst:=lK (P:=Tryz.prog) (w:=w1) (t:=45) (T:=T6) (g:=g6) (off:=0) (v:=.agg uss[j].toArray) (vs:=uss[j].toArray) (cs:=cs6) rfl (by rw [hsz45];simp [hl8]) (zF hRj.one) hh6 (by simp [hl8,hl6]);rw [Aw (by simp [hl8,hl6])] at hst;have hgr:=iT w1 g6 uss[j].toArray;have hh6':=setRow_heap w1 g6 cs6 uss[j].toArray _ _ hh6;have hB5:Below w.heap.size w (w1.setRow g6 uss[j].toArray):=⟨hgr.os.trans hB.os,hgr.tape.trans hB.tape,hgr.output.trans hB.output,Nat.le_trans hB.size hgr.size,λk hk=>(hgr.block k (Nat.lt_of_lt_of_le hk hB.size) (λe=>by cases e;omega)).trans (hB.block k hk)⟩
  refine aC (aF (wp1 rfl (bT (hFm.ev rfl)) ?_));replace hFm:=hFm.put (d:=54) (by decide) (.slice (some ⟨gl,0,none⟩) L.length cap);refine wp1 rfl (bT (hFm.ev rfl)) ?_;replace hFm:=hFm.put (d:=55) (by decide) (.int .i64 (j:Nat));refine wp1 rfl (Y5 hsl45 (hFm.ev rfl) (hFm.ev rfl) hjl) ?_;replace hFm:=hFm.put (d:=56) (by decide) (.pointer (some ⟨gl,j*8,none⟩));refine wp1 rfl (O7 hrow (hFm.ev rfl) hgl4 hex) ?_;rw [hcut];replace hFm:=hFm.put (d:=57) (by decide) (.agg uss[j].toArray);refine adY rfl (Ip (hFm.ev rfl) (hFm.ev rfl) hst) ?_;refine (show Exit.then _ _ .normal _ _ from cZ (sJ (JZ ?_)));refine Ou rfl hFm.defers (Iu hFm rfl hrow hh6' (by simp [hl8])) ⟨_,rfl, ?_⟩;obtain ⟨e1,e2⟩:=aaz (sq:=sq) (sp:=sp) (s:=s) (v:=v) (n:=n+1) (by rw [hL];exact hbi);rw [e1,e2,hL,hj];exact afT (st:=GV sq sp n) hB5 hmo hnd hmap ⟨us',rfl,hsq,hF,hes,val,og,hval,hsl,hinj⟩ (Nat.le_succ n) (.d (.agg hRj))
 case refine_2 =>
  have hbi:gy sq v L L.length<0:=by have:=of_decide_eq_false hp;omega
  refine dZ (cZ ?_);obtain ⟨uss,hrs,hown,hob⟩:=hslot.row (λq hq=>(hmore q hq).2.2);rw [List.length_map] at hown
  have hogm:∀i,og s=some i→i<w.heap.size:=λi hi=>by
   have h6:=hslot;rw [hi] at h6;generalize val s=vx at h6;generalize L.map bn=fx at h6;cases h6 with
   |some hm hr hc hx hn h0=>exact lt_of_heap (hmore _ hm).2.2
  have hF0:Frm 68 a [(0,.pointer (some ⟨g,0,none⟩)),(1,.string s),(5,.pointer (some ⟨w.heap.size,0,none⟩)),(6,.pointer (some ⟨g6,0,none⟩)),(8,val s)] :=
   ((((hc.frm.cons hk8).cons v6).cons (hc.kp (.tail _ (.head _)))).cons (hc.get (t:=1) rfl (by simp))).cons (hc.kp (.tail _ (.tail _ (.head _))))
  have hBd:Below w.heap.size w w1.drew:=hB.drew;have hg0w:w1.drew.heap[g]?=some (.cells (Value.map (some g0) :: us').toArray T (0,0)):=(hBd.block g hgl).trans hgc;have hBa:Below w.heap.size w (w1.drew.alloc (.cells us2.toArray 45)):=hBd.alloc hBd.size _;have hkeepA:∀i,i<w1.heap.size→(w1.drew.alloc (.cells us2.toArray 45)).heap[i]?=w1.heap[i]?:=λi hi=>Below.heap_alloc w1.drew _ i hi
  have hnewA:(w1.drew.alloc (.cells us2.toArray 45)).heap[w1.heap.size]?=some (.cells us2.toArray 45 (0,0)):=heap_alloc_new w1.drew _;have hszA:(w1.drew.alloc (.cells us2.toArray 45)).heap.size=w1.heap.size+1:=by simp
  obtain ⟨v',w2,r1,r2,r3,r4,r5,r6⟩:=Nw (P:=Tryz.prog) (ty:=53) (w:=w1.drew.alloc (.cells us2.toArray 45)) (base:=0) (by decide) hsl45 hel45 hz45 (EY hown (λi hi=>hBa.block i hi)) (A:=some ⟨w1.heap.size,0,none⟩) (m:=1) (c:=1) (news:=us2) (by rw [hl2]) (λad had i u hu=>by
   cases had;rw [Addr.add_lit,cell_of_row _ _ _ _ _ _ hnewA]
   simpa using hu) (λh=>by cases h) hv2.one (by omega) (Nat.zero_le _)
  have hE6:Ext w X w (g6 :: X):=(Ext.refl w X).add hg6
  obtain ⟨w3,mo',more',j1,j2,j3,j4,j5,j6,j7,j8⟩:=agW (P:=Tryz.prog) (mT:=131) (kT:=9) (sT:=53) (T:=45) (s:=8) (st:=GV sq sp n) (w:=w) (X:=g6 :: X) (v':=v') (vs:=us2) (vC:=bn v) (uss:=uss) Tryz.underlying9 Tryz.underlying131 (by decide) rfl (hsq.ext hE6) hF hes (show n<maxLen by unfold maxLen;omega) hval (λk=>(hsl k).ext hE6) hinj
   (λq hq=>⟨List.mem_cons_of_mem _ (hmore q hq).1,(hmore q hq).2.2⟩) hnd hmap (k:=s) (by unfold maxLen;omega) (hv2.ext hE6) hl2 (by rw [hfs];exact hrs.ext hE6) hBa (by rw [hfs,List.length_map];exact r2) r3 r4 hob
  have hgb:(val s).ownBlock≠some g:=λe=>by
   rw [hob] at e;have h6:=hslot;rw [e] at h6;generalize val s=vx at h6;generalize L.map bn=fx at h6;cases h6 with
   |some hm hr hc hx hn h0=>exact (hmore _ hm).2.1 rfl
  have hg2:w2.heap[g]?=some (.cells (Value.map (some g0) :: us').toArray T (0,0)):=(r3.block g (Nat.lt_of_lt_of_le hgl hBa.size) (λe=>hgb e.symm)).trans ((hBa.block g hgl).trans hgc)
  refine aC (Ic (N:=68) (L0:=[(0,.pointer (some ⟨g,0,none⟩)),(1,.string s),(5,.pointer (some ⟨w.heap.size,0,none⟩)),(6,.pointer (some ⟨g6,0,none⟩)),(8,val s)]) (L1:=[]) [7,8,9] [0,1,2,4,5] [[3,6],[3],[3],[]]
   [(0,.pointer (some ⟨g,0,none⟩)),(1,.pointer (some ⟨g,0,none⟩)),(2,.pointer (some ⟨g,0,none⟩)),(3,.map (some g0)),(4,.string s),(5,val s),(6,.agg us2.toArray)] fF (by kernel_rfl) (by kernel_rfl) (by kernel_rfl) (by kernel_rfl) (by kernel_rfl) hF0 hc.frm ⟨?_, ?_, ?_, ?_, ?_,trivial⟩ ?_)
  ·exact ⟨_,_,_,rfl,rfl,rfl,λa w hF hb K hK=>aV rfl rfl rfl (bT (hF.get 0 _ rfl)) hK⟩
  ·exact ⟨_,_,_,rfl,rfl,rfl,λa w hF hb K hK=>aV rfl rfl rfl (OE (hb _ rfl 0 _ 58 _ rfl rfl rfl rfl rfl)) hK⟩
  ·exact ⟨_,_,_,rfl,rfl,rfl,λa w hF hb K hK=>aV rfl rfl rfl (gW (off:=0) (by kernel_rfl) (hb _ rfl 1 _ 59 _ rfl rfl rfl rfl rfl)) hK⟩
  ·exact ⟨_,_,_,rfl,rfl,rfl,λa w hF hb K hK=>aV rfl rfl rfl (bT (hF.get 1 _ rfl)) hK⟩
  ·exact ⟨_,_,_,rfl,rfl,rfl,λa w hF hb K hK=>aV rfl rfl rfl (bT (hF.get 8 _ rfl)) hK⟩
  refine ⟨⟨?_, ?_,trivial⟩,_,rfl,λa hF hF1 hb=>NC rfl rfl rfl (XJ hsl45 hel45 hz45 (hb _ rfl 6 _ 64 _ rfl rfl rfl rfl rfl) (by simp [hl2])) ⟨_,_,rfl,λ_ _ h=>h, ?_⟩⟩
  ·exact ⟨_,_,_,rfl,rfl,rfl,λa hF hF1 hb K hK=>aV rfl rfl rfl (iw (v:=.map (some g0)) (by kernel_rfl) (hb _ rfl 2 _ 60 _ rfl rfl rfl rfl rfl) hg0w rfl) hK⟩
  ·exact ⟨_,_,_,rfl,rfl,rfl,λa hF hF1 hb K hK=>aV rfl rfl rfl (rX hrow (hF.get 5 _ rfl) hg5 (by simp [hl2])) hK⟩
  refine ⟨⟨?_,trivial⟩,_,rfl,λa hF hF1 hb=>NC rfl rfl rfl (Qi (hb _ rfl 5 _ 63 _ rfl rfl rfl rfl rfl) (hF1.get 65 _ rfl) r1) ⟨_,_,rfl,λ_ _ h=>h, ?_⟩⟩
  ·exact ⟨_,_,_,rfl,rfl,rfl,λa hF hF1 hb K hK=>aV rfl rfl rfl (iw (v:=.map (some g0)) (by kernel_rfl) (hb _ rfl 2 _ 60 _ rfl rfl rfl rfl rfl) ((hBa.block g hgl).trans hgc) rfl) hK⟩
  refine ⟨⟨?_,trivial⟩,_,rfl,λa hF hF1 hb=>UJ rfl rfl rfl (EH (hb _ rfl 3 _ 61 _ rfl rfl rfl rfl rfl) (hb _ rfl 4 _ 62 _ rfl rfl rfl rfl rfl) (hF1.get 66 _ rfl) j1) ⟨undef,_,rfl,λ_ _ h=>h, ?_⟩⟩
  ·exact ⟨_,_,_,rfl,rfl,rfl,λa hF hF1 hb K hK=>aV rfl rfl rfl (iw (v:=.map (some g0)) (by kernel_rfl) (hb _ rfl 2 _ 60 _ rfl rfl rfl rfl rfl) hg2 rfl) hK⟩
  refine ⟨trivial,λa hF hF1 hC=>cZ ?_⟩;clear hC hF1;have hlt5:w.heap.size<w1.heap.size:=lt_of_heap hg5;have hlt6:g6<w1.heap.size:=lt_of_heap hh6;have k5:w3.heap[w.heap.size]?=some (.cells us2.toArray 45 (0,0)):=(j7 _ (by omega) (by omega) (λe=>by have:=hogm _ e;omega)).trans ((hkeepA _ hlt5).trans hg5);have k6:w3.heap[g6]?=some (.cells cs6 T6 (0,0)):=(j7 _ (by omega) (by omega) (λe=>by have:=hogm _ e;omega)).trans ((hkeepA _ hlt6).trans hh6);have hst:=lK (P:=Tryz.prog) (w:=w3) (t:=45) (T:=T6) (g:=g6) (off:=0) (v:=.agg us2.toArray) (vs:=us2.toArray) (cs:=cs6) rfl (by rw [hsz45];simp [hl2]) (zF hv2.one) k6 (by simp [hl2,hl6]);rw [Aw (by simp [hl2,hl6])] at hst;have hgr:=iT w3 g6 us2.toArray;have hh6':=setRow_heap w3 g6 cs6 us2.toArray _ _ k6;refine aC (aF (wp1 rfl (rX hrow (hF.ev rfl) k5 (by simp [hl2])) ?_));replace hF:=hF.put (d:=67) (by decide) (.agg us2.toArray);refine adY rfl (Ip (hF.ev rfl) (hF.ev rfl) hst) ?_;refine (show Exit.then _ _ .normal _ _ from cZ (sJ ?_));refine Ou rfl hF.defers (Iu hF rfl hrow hh6' (by simp [hl2])) ⟨_,rfl, ?_⟩;obtain ⟨e1,e2⟩:=afN (sq:=sq) (sp:=sp) (s:=s) (v:=v) (n:=n) (by rw [hL];exact hbi);rw [e1,e2];obtain ⟨o1,o2,o3,o4,o5⟩:=j6
  have hmX:∀i,i∈bl more→i∈X∧i<w.heap.size:=λi hi=>by
   obtain ⟨q,hq,rfl⟩:=List.mem_map.1 hi;exact ⟨(hmore q hq).1,lt_of_heap (hmore q hq).2.2⟩
  have hq6:∀q∈more',q.1≠g6:=λq hq e=>by
   rcases (j4 q hq).1 with h|h
   ·have:=(hmX _ h).2;omega
   ·omega
  have hs5:w.heap.size≤(w3.setRow g6 us2.toArray).heap.size:=Nat.le_trans o4 hgr.size;have h5k:∀i,i<w.heap.size→i≠g0→i ∉ bl more→(w3.setRow g6 us2.toArray).heap[i]?=w.heap[i]?:=λi hi h1 h2=>(hgr.block i (Nat.lt_of_lt_of_le hi o4) (λe=>by cases e;omega)).trans (o5 i hi h1 h2)
  have hE5:Ext w X (w3.setRow g6 us2.toArray) (bl more'++X):=⟨hs5,λi hi hx hnm=>⟨h5k i hi (λe=>hnm _ _ (e ▸ hmap)) (λh=>hx (hmX i h).1),λhm=>by
   rcases List.mem_append.1 hm with hm|hm
   ·obtain ⟨q,hq,rfl⟩:=List.mem_map.1 hm;rcases (j4 q hq).1 with h|h
    ·exact hx (hmX _ h).1
    ·omega
   ·exact hx hm⟩⟩
  have hE3:Ext w3 (bl more'++(g6 :: X)) (w3.setRow g6 us2.toArray) (bl more'++X):=(Ext.write hgr (by simp)).trans (Ext.drop λx hx=>by
   rcases List.mem_append.1 hx with hx|hx
   ·exact List.mem_append_left _ hx
   ·exact List.mem_append_right _ (List.mem_cons_of_mem _ hx))
  refine ⟨more',mo',j2,(hgr.block g0 (lt_of_heap j3) (λe=>by cases e;omega)).trans j3,λq hq=>⟨?_,(hgr.block q.1 (lt_of_heap (j4 q hq).2) (λe=>hq6 q hq (by injection e))).trans (j4 q hq).2⟩,j5,⟨hgr.os.trans o1,hgr.tape.trans o2,hgr.output.trans o3,hs5,h5k⟩,.d (.agg (hv2.ext hE5)),(Gi Tryz.prog 9 45 8 _).ext j8 hE3⟩;rcases (j4 q hq).1 with h|h
  ·exact .inl h
  ·right;omega
end Go.Proofs.YtmniihkenijjpaaGreatDoor
namespace Go.Proofs.YtmniihkenijjpaaGreatDoor
open Go Go.RowKit Go.Sw Go.Shelf
set_option maxRecDepth 100000
set_option maxHeartbeats 8000000
set_option synthInstance.maxSize 4000
set_option synthInstance.maxHeartbeats 400000
def Qj:Tab:=(2000000000,.flag) :: F9
theorem uz:dR Tryz.prog Qj=true:=by kernel_rfl
def abC:Go.Shelf.Ren:=⟨λn=>if n=41 then 31 else n,λn=>if n=22 then 53 else if n=23 then 45 else n,id⟩
theorem abW:Go.Proofs.SlLaysE0.n41 Tryz.prog abC where
 mixed:=fF
 f41:=⟨ "slices.Clone[[]swarf/api.Vec,swarf/api.Vec]",by decide,Eq.trans Tryz.func31 (congrArg some (Eq.refl _))⟩
 t4:=Tryz.underlying4
 a4:=Tryz.isAgg4
 z4:=Tryz.sizeOf4
 v4:=Tryz.zeroValue4
 t22:=Tryz.underlying53
 a22:=Tryz.isAgg53
 z22:=Tryz.sizeOf53
 v22:=Tryz.zeroValue53
theorem Yx:∃i0,Tryz.prog.info? 45=some i0∧i0.zero=some (.agg #[.bool false,.slice none 0 0,.bool false,.slice none 0 0,.bool false,.slice none 0 0,.bool false,.slice none 0 0])∧i0.size=8∧i0.bytes=128:=info_parts (by kernel_rfl)
instance ahP(es:List (List Cell)):DenI Tryz.prog 31 [.c (.sl 8 es)] (es.length≤1000000) (.own 45 8 es):=⟨λhp=>by
 obtain ⟨i0,h1,h2,h3,h4⟩:=Yx
 exact CX abW (by kernel_rfl) i0 _ h1 h2 h3 (by omega) rfl (by decide) Tryz.sizeOf45 hp⟩
instance aeZ(e:Ent):DenI Tryz.prog 30 [.agg (bZ e)] (e.pts.length≤1000000) (CP e):=⟨λhp=>by
 refine qA (τ:=F9) lq fF Tryz.func30 rfl (by kernel_rfl) (by kernel_rfl) (by kernel_rfl) ?_
 all_goals (repeat' ((try (conv=>whnf));first
  |(with_reducible refine aJ ?_)
  |(with_reducible refine aK ?_)
  |(with_reducible refine au (λ_=>?_) (λ_=>?_))
  |refine Drw.mk (by kernel_rfl) ?_
  |refine aN P0 ?_ ?_
  |refine Ends.mk ?_))
 all_goals (try refine Pr.mk ?_)
 all_goals (try simp only [List.length_map] at *)
 all_goals (try simp (disch:=omega) only [bY] at *)
 all_goals first
  |(exfalso;omega)
  |exact G9 (by omega) rfl (by omega)
  |exact NH (by omega)
  |omega⟩
instance (priority:=3000) mX(e:Ent):DenI Tryz.prog 30 [.agg (bZ e)] (e.pts.length≤1000000) (.tup [.c (.sl 8 ((aP e).map bn)),.bool (decide (aP e≠[]))]):=⟨λhp=>Rw rfl (by by_cases h:aP e=[]<;>simp [h]) ((inferInstance:DenI Tryz.prog 30 [.agg (bZ e)] _ (CP e)).den hp)⟩
instance afe(e:Ent)(l:List P2):DenI Tryz.prog 94 [.agg (bZ e),.c (.sl 8 (l.map bn))] (e.pts.length≤1000000∧l.length=(aP e).length) (.agg (bZ (gY e l))):=⟨λhp=>by
 obtain ⟨hp1,hp2⟩:=hp;have hsh:=BX e
 all_goals refine qA (τ:=Qj) uz fF Tryz.func94 rfl (by kernel_rfl) (by kernel_rfl) (by kernel_rfl) ?_
 all_goals (repeat' ((try (conv=>whnf));first
  |refine ak ?_ ?_
  |(with_reducible refine au (λ_=>?_) (λ_=>?_))
  |refine aU ?_ ?_
  |refine Drw.mk (by kernel_rfl) ?_
  |refine I4 P0 _ ?_ ?_
  |refine aN P0 ?_ ?_
  |refine Ends.mk ?_))
 all_goals (try refine Pr.mk ?_)
 all_goals (try simp only [List.length_map] at *)
 all_goals (try simp (disch:=omega) only [bY] at *)
 all_goals first
  |omega
  |(simp only [List.length_set,List.length_map])
  |exact Qd (by omega) hp2 (by omega)
  |exact Um (by assumption) hp2⟩
instance adG(e:Ent):DenI Tryz.prog 94 [.agg (bZ e),.c (.sl 0 [])] (e.pts.length≤1000000) (.agg (bZ e)):=⟨λhp=>by
 refine qA (τ:=Qj) uz fF Tryz.func94 rfl (by kernel_rfl) (by kernel_rfl) (by kernel_rfl) ?_
 all_goals (repeat' ((try (conv=>whnf));first
  |refine ak ?_ ?_
  |(with_reducible refine au (λ_=>?_) (λ_=>?_))
  |refine aU ?_ ?_
  |refine Ends.mk ?_))
 all_goals (try refine Pr.mk ?_)
 all_goals (try simp only [List.length_map] at *)
 all_goals first
  |omega
  |rfl
  |(exfalso;simp at *;done)⟩
instance ahJ(l:ByteArray)(a b:P2)(r:Rq):DenI Tryz.prog 30 [.agg [.v (.int .i64 1),.v (.string l),.sl 8 [bn a,bn b],.v (.bool r.a),bJ r.l,.v (.bool r.b),bJ r.m]] True (.tup [.c (.sl 8 [bn a,bn b]),.bool true]):=⟨λ_=>by
 have h:=(mX ⟨1,l,[a,b],r⟩).den (by show _≤1000000;simp);simp only [aP] at h
 exact h⟩
instance ahK(l:ByteArray)(a m b:P2)(r:Rq):DenI Tryz.prog 30 [.agg [.v (.int .i64 2),.v (.string l),.sl 8 [bn a,bn m,bn b],.v (.bool r.a),bJ r.l,.v (.bool r.b),bJ r.m]] True (.tup [.c (.sl 8 [bn a,bn b]),.bool true]):=⟨λ_=>by
 have h:=(mX ⟨2,l,[a,m,b],r⟩).den (by show _≤1000000;simp);simp only [aP] at h
 exact h⟩
instance ahW(l:ByteArray)(a:P2)(q:Rat):DenI Tryz.prog 30 [.agg [.v (.int .i64 3),.v (.string l),.sl 8 [bn a],zs q.num,zl q.num,zs q.den,zl q.den]] True (.tup [.c (.sl 8 []),.bool false]):=⟨λ_=>by
 have h:=(mX ⟨3,l,[a],nJ q⟩).den (by show _≤1000000;simp);simp only [aP] at h
 exact h⟩
instance ad3(l:ByteArray)(a m b:P2)(r:Rq):DenI Tryz.prog 95 [.agg [.v (.int .i64 2),.v (.string l),.sl 8 [bn a,bn m,bn b],.v (.bool r.a),bJ r.l,.v (.bool r.b),bJ r.m]] (dn a∧dn m∧dn b) (.bool (decide (qB a m b=0))):=⟨λhp=>by
 obtain ⟨g1,g2,g3⟩:=hp
 all_goals refine qA (τ:=tab) aa8 fF Tryz.func95 rfl (by kernel_rfl) (by kernel_rfl) (by kernel_rfl) ?_
 all_goals (repeat' ((try (conv=>whnf));first
  |refine jr ?_ (λ_=>?_) (λ_=>?_)
  |refine Drw.mk (by kernel_rfl) ?_
  |(with_reducible refine bF ?_)
  |(with_reducible refine bM ?_)
  |(with_reducible refine Ul ?_)
  |refine Ends.mk ?_))
 all_goals (try refine Pr.mk ?_)
 all_goals (try simp only [dU] at *)
 all_goals first
  |exact bE (decide_eq_true (by assumption)).symm
  |exact bE (decide_eq_false (by assumption)).symm
  |exact ⟨Nat.le_trans g1.1 (by decide),Nat.le_trans g1.2 (by decide),Nat.le_trans g2.1 (by decide),Nat.le_trans g2.2 (by decide),Nat.le_trans g3.1 (by decide),Nat.le_trans g3.2 (by decide)⟩⟩
instance aix(l1 l2:ByteArray)(a m b c n d:P2)(r1 r2:Rq):DenI Tryz.prog 126 [.agg [.v (.int .i64 2),.v (.string l1),.sl 8 [bn a,bn m,bn b],.v (.bool r1.a),bJ r1.l,.v (.bool r1.b),bJ r1.m],.agg [.v (.int .i64 2),.v (.string l2),.sl 8 [bn c,bn n,bn d],.v (.bool r2.a),bJ r2.l,.v (.bool r2.b),bJ r2.m]] (dn c∧dn n∧dn d∧dn m) (.bool (Wj c n d m)):=⟨λhp=>by
 obtain ⟨g1,g2,g3,g4⟩:=hp
 all_goals refine qA (τ:=tab) aa8 fF Tryz.func126 rfl (by kernel_rfl) (by kernel_rfl) (by kernel_rfl) ?_
 all_goals (repeat' ((try (conv=>whnf));first
  |refine ak ?_ ?_
  |refine jr ?_ (λ_=>?_) (λ_=>?_)
  |(with_reducible refine aJ ?_)
  |(with_reducible refine aK ?_)
  |(with_reducible refine au (λ_=>?_) (λ_=>?_))
  |refine Drw.mk (by kernel_rfl) ?_
  |(with_reducible refine bF ?_)
  |(with_reducible refine bM ?_)
  |(with_reducible refine Ul ?_)
  |refine Ends.mk ?_))
 all_goals (try refine Pr.mk ?_)
 all_goals (try simp only [dU] at *)
 all_goals first
  |(exfalso;rename ¬True=>h;exact h trivial)
  |(exfalso;omega)
  |exact bE (YR (a:=c) (b:=n) (c:=d) (p:=m) (by assumption))
  |exact bE (abM (a:=c) (b:=n) (c:=d) (p:=m) (by assumption)).symm
  |exact ⟨(J7 g1 g2 g3).1,(J7 g1 g2 g3).2.1,(J7 g1 g2 g3).2.2,g1.1,g1.2,g3.1,g3.2,g4.1,g4.2⟩
  |exact ⟨Nat.le_trans g1.1 (by decide),Nat.le_trans g1.2 (by decide),Nat.le_trans g2.1 (by decide),Nat.le_trans g2.2 (by decide),Nat.le_trans g3.1 (by decide),Nat.le_trans g3.2 (by decide)⟩
  |exact ⟨Nat.le_trans g4.1 (by decide),Nat.le_trans g4.2 (by decide)⟩⟩
instance aeH(l1 l2:ByteArray)(a b c d:P2)(r1:Rq)(r2:Rq):DenI Tryz.prog 96 [.agg [.v (.int .i64 1),.v (.string l1),.sl 8 [bn a,bn b],.v (.bool r1.a),bJ r1.l,.v (.bool r1.b),bJ r1.m],.agg [.v (.int .i64 1),.v (.string l2),.sl 8 [bn c,bn d],.v (.bool r2.a),bJ r2.l,.v (.bool r2.b),bJ r2.m]] (dn a∧dn b∧dn c∧dn d) (.bool (iP ⟨1,l1,[a,b],r1⟩ ⟨1,l2,[c,d],r2⟩)):=⟨λhp=>by
 obtain ⟨g1,g2,g3,g4⟩:=hp
 all_goals refine qA (τ:=tab) aa8 fF Tryz.func96 rfl (by kernel_rfl) (by kernel_rfl) (by kernel_rfl) ?_
 all_goals (repeat' ((try (conv=>whnf));first
  |refine aG ?_
  |refine ak ?_ ?_
  |(with_reducible refine aJ ?_)
  |(with_reducible refine aK ?_)
  |(with_reducible refine au (λ_=>?_) (λ_=>?_))
  |(with_reducible refine bG (λ_=>?_) (λ_=>?_))
  |refine OnB.mk (λ_=>?_) (λ_=>?_)
  |refine Drw.mk (by kernel_rfl) ?_
  |(with_reducible refine bF ?_)
  |(with_reducible refine bM ?_)
  |refine Ends.mk ?_))
 all_goals (try refine Pr.mk ?_)
 all_goals (try simp only [dU] at *)
 all_goals first
  |(exfalso;rename ¬True=>h;exact h trivial)
  |(exfalso;omega)
  |exact ⟨Nat.le_trans g1.1 (by decide),Nat.le_trans g1.2 (by decide),Nat.le_trans g3.1 (by decide),Nat.le_trans g3.2 (by decide)⟩
  |exact ⟨Nat.le_trans g2.1 (by decide),Nat.le_trans g2.2 (by decide),Nat.le_trans g4.1 (by decide),Nat.le_trans g4.2 (by decide)⟩
  |exact ⟨Nat.le_trans g1.1 (by decide),Nat.le_trans g1.2 (by decide),Nat.le_trans g4.1 (by decide),Nat.le_trans g4.2 (by decide)⟩
  |exact ⟨Nat.le_trans g2.1 (by decide),Nat.le_trans g2.2 (by decide),Nat.le_trans g3.1 (by decide),Nat.le_trans g3.2 (by decide)⟩
  |trivial
  |(refine bE ?_;rw [Ti];simp only [Bool.not_eq_true',Bool.not_eq_false'] at *;simp only [pE, *,Bool.and_true,Bool.true_and,Bool.and_false,Bool.false_and,Bool.or_false,Bool.false_or,Bool.or_true,Bool.true_or,decide_true,decide_false,if_true,if_false,Bool.false_eq_true,Bool.not_true,Bool.not_false,beq_self_eq_true];done)⟩
instance adW(l1 l2:ByteArray)(a b c n d:P2)(r1:Rq)(r2:Rq):DenI Tryz.prog 96 [.agg [.v (.int .i64 1),.v (.string l1),.sl 8 [bn a,bn b],.v (.bool r1.a),bJ r1.l,.v (.bool r1.b),bJ r1.m],.agg [.v (.int .i64 2),.v (.string l2),.sl 8 [bn c,bn n,bn d],.v (.bool r2.a),bJ r2.l,.v (.bool r2.b),bJ r2.m]] (dn a∧dn b∧dn c∧dn n∧dn d) (.bool (iP ⟨1,l1,[a,b],r1⟩ ⟨2,l2,[c,n,d],r2⟩)):=⟨λhp=>by
 obtain ⟨g1,g2,g3,g4,g5⟩:=hp
 all_goals refine qA (τ:=tab) aa8 fF Tryz.func96 rfl (by kernel_rfl) (by kernel_rfl) (by kernel_rfl) ?_
 all_goals (repeat' ((try (conv=>whnf));first
  |refine aG ?_
  |refine ak ?_ ?_
  |(with_reducible refine aJ ?_)
  |(with_reducible refine aK ?_)
  |(with_reducible refine au (λ_=>?_) (λ_=>?_))
  |(with_reducible refine bG (λ_=>?_) (λ_=>?_))
  |refine OnB.mk (λ_=>?_) (λ_=>?_)
  |refine Drw.mk (by kernel_rfl) ?_
  |(with_reducible refine bF ?_)
  |(with_reducible refine bM ?_)
  |refine Ends.mk ?_))
 all_goals (try refine Pr.mk ?_)
 all_goals (try simp only [dU] at *)
 all_goals first
  |(exfalso;rename ¬True=>h;exact h trivial)
  |(exfalso;omega)
  |(refine bE ?_;rw [tY (by show ¬((1:Int)=2);decide)];done)⟩
instance aeO(l1 l2:ByteArray)(a b c:P2)(r1:Rq)(q2:Rat):DenI Tryz.prog 96 [.agg [.v (.int .i64 1),.v (.string l1),.sl 8 [bn a,bn b],.v (.bool r1.a),bJ r1.l,.v (.bool r1.b),bJ r1.m],.agg [.v (.int .i64 3),.v (.string l2),.sl 8 [bn c],zs q2.num,zl q2.num,zs q2.den,zl q2.den]] (dn a∧dn b∧dn c∧rz q2≤12) (.bool (iP ⟨1,l1,[a,b],r1⟩ ⟨3,l2,[c],nJ q2⟩)):=⟨λhp=>by
 obtain ⟨g1,g2,g3,g4⟩:=hp
 all_goals refine qA (τ:=tab) aa8 fF Tryz.func96 rfl (by kernel_rfl) (by kernel_rfl) (by kernel_rfl) ?_
 all_goals (repeat' ((try (conv=>whnf));first
  |refine aG ?_
  |refine ak ?_ ?_
  |(with_reducible refine aJ ?_)
  |(with_reducible refine aK ?_)
  |(with_reducible refine au (λ_=>?_) (λ_=>?_))
  |(with_reducible refine bG (λ_=>?_) (λ_=>?_))
  |refine OnB.mk (λ_=>?_) (λ_=>?_)
  |refine Drw.mk (by kernel_rfl) ?_
  |(with_reducible refine bF ?_)
  |refine Ends.mk ?_))
 all_goals (try refine Pr.mk ?_)
 all_goals (try simp only [dU] at *)
 all_goals first
  |(exfalso;omega)
  |(refine bE ?_;rw [tY (by show ¬((1:Int)=3);decide)];done)⟩
instance aej(l1 l2:ByteArray)(a m b c d:P2)(r1:Rq)(r2:Rq):DenI Tryz.prog 96 [.agg [.v (.int .i64 2),.v (.string l1),.sl 8 [bn a,bn m,bn b],.v (.bool r1.a),bJ r1.l,.v (.bool r1.b),bJ r1.m],.agg [.v (.int .i64 1),.v (.string l2),.sl 8 [bn c,bn d],.v (.bool r2.a),bJ r2.l,.v (.bool r2.b),bJ r2.m]] (dn a∧dn m∧dn b∧dn c∧dn d) (.bool (iP ⟨2,l1,[a,m,b],r1⟩ ⟨1,l2,[c,d],r2⟩)):=⟨λhp=>by
 obtain ⟨g1,g2,g3,g4,g5⟩:=hp
 all_goals refine qA (τ:=tab) aa8 fF Tryz.func96 rfl (by kernel_rfl) (by kernel_rfl) (by kernel_rfl) ?_
 all_goals (repeat' ((try (conv=>whnf));first
  |refine aG ?_
  |refine ak ?_ ?_
  |(with_reducible refine aJ ?_)
  |(with_reducible refine aK ?_)
  |(with_reducible refine au (λ_=>?_) (λ_=>?_))
  |(with_reducible refine bG (λ_=>?_) (λ_=>?_))
  |refine OnB.mk (λ_=>?_) (λ_=>?_)
  |refine Drw.mk (by kernel_rfl) ?_
  |(with_reducible refine bF ?_)
  |(with_reducible refine bM ?_)
  |refine Ends.mk ?_))
 all_goals (try refine Pr.mk ?_)
 all_goals (try simp only [dU] at *)
 all_goals first
  |(exfalso;omega)
  |(refine bE ?_;rw [tY (by show ¬((2:Int)=1);decide)];done)⟩
instance adD(l1 l2:ByteArray)(a m b c n d:P2)(r1:Rq)(r2:Rq):DenI Tryz.prog 96 [.agg [.v (.int .i64 2),.v (.string l1),.sl 8 [bn a,bn m,bn b],.v (.bool r1.a),bJ r1.l,.v (.bool r1.b),bJ r1.m],.agg [.v (.int .i64 2),.v (.string l2),.sl 8 [bn c,bn n,bn d],.v (.bool r2.a),bJ r2.l,.v (.bool r2.b),bJ r2.m]] (dn a∧dn m∧dn b∧dn c∧dn n∧dn d) (.bool (iP ⟨2,l1,[a,m,b],r1⟩ ⟨2,l2,[c,n,d],r2⟩)):=⟨λhp=>by
 obtain ⟨g1,g2,g3,g4,g5,g6⟩:=hp
 all_goals refine qA (τ:=tab) aa8 fF Tryz.func96 rfl (by kernel_rfl) (by kernel_rfl) (by kernel_rfl) ?_
 all_goals (repeat' ((try (conv=>whnf));first
  |refine aG ?_
  |refine ak ?_ ?_
  |(with_reducible refine aJ ?_)
  |(with_reducible refine aK ?_)
  |(with_reducible refine au (λ_=>?_) (λ_=>?_))
  |(with_reducible refine bG (λ_=>?_) (λ_=>?_))
  |refine OnB.mk (λ_=>?_) (λ_=>?_)
  |refine Drw.mk (by kernel_rfl) ?_
  |(with_reducible refine bF ?_)
  |(with_reducible refine bM ?_)
  |refine Ends.mk ?_))
 all_goals (try refine Pr.mk ?_)
 all_goals (try simp only [dU] at *)
 all_goals first
  |(exfalso;rename ¬True=>h;exact h trivial)
  |(exfalso;omega)
  |exact ⟨Nat.le_trans g1.1 (by decide),Nat.le_trans g1.2 (by decide),Nat.le_trans g4.1 (by decide),Nat.le_trans g4.2 (by decide)⟩
  |exact ⟨Nat.le_trans g3.1 (by decide),Nat.le_trans g3.2 (by decide),Nat.le_trans g6.1 (by decide),Nat.le_trans g6.2 (by decide)⟩
  |exact ⟨Nat.le_trans g1.1 (by decide),Nat.le_trans g1.2 (by decide),Nat.le_trans g6.1 (by decide),Nat.le_trans g6.2 (by decide)⟩
  |exact ⟨Nat.le_trans g3.1 (by decide),Nat.le_trans g3.2 (by decide),Nat.le_trans g4.1 (by decide),Nat.le_trans g4.2 (by decide)⟩
  |exact ⟨Nat.le_trans g2.1 (by decide),Nat.le_trans g2.2 (by decide),Nat.le_trans g5.1 (by decide),Nat.le_trans g5.2 (by decide)⟩
  |exact ⟨g1,g2,g3⟩
  |exact ⟨g4,g5,g6⟩
  |exact ⟨g4,g5,g6,g2⟩
  |exact ⟨g1,g2,g3,g5⟩
  |trivial
  |(refine bE ?_;rw [Ud];simp only [Bool.not_eq_true',Bool.not_eq_false'] at *;simp only [pE, *,Bool.and_true,Bool.true_and,Bool.and_false,Bool.false_and,Bool.or_false,Bool.false_or,Bool.or_true,Bool.true_or,decide_true,decide_false,if_true,if_false,Bool.false_eq_true,Bool.not_true,Bool.not_false,beq_self_eq_true];done)⟩
instance ad4(l1 l2:ByteArray)(a m b c:P2)(r1:Rq)(q2:Rat):DenI Tryz.prog 96 [.agg [.v (.int .i64 2),.v (.string l1),.sl 8 [bn a,bn m,bn b],.v (.bool r1.a),bJ r1.l,.v (.bool r1.b),bJ r1.m],.agg [.v (.int .i64 3),.v (.string l2),.sl 8 [bn c],zs q2.num,zl q2.num,zs q2.den,zl q2.den]] (dn a∧dn m∧dn b∧dn c∧rz q2≤12) (.bool (iP ⟨2,l1,[a,m,b],r1⟩ ⟨3,l2,[c],nJ q2⟩)):=⟨λhp=>by
 obtain ⟨g1,g2,g3,g4,g5⟩:=hp
 all_goals refine qA (τ:=tab) aa8 fF Tryz.func96 rfl (by kernel_rfl) (by kernel_rfl) (by kernel_rfl) ?_
 all_goals (repeat' ((try (conv=>whnf));first
  |refine aG ?_
  |refine ak ?_ ?_
  |(with_reducible refine aJ ?_)
  |(with_reducible refine aK ?_)
  |(with_reducible refine au (λ_=>?_) (λ_=>?_))
  |(with_reducible refine bG (λ_=>?_) (λ_=>?_))
  |refine OnB.mk (λ_=>?_) (λ_=>?_)
  |refine Drw.mk (by kernel_rfl) ?_
  |(with_reducible refine bF ?_)
  |refine Ends.mk ?_))
 all_goals (try refine Pr.mk ?_)
 all_goals (try simp only [dU] at *)
 all_goals first
  |(exfalso;omega)
  |(refine bE ?_;rw [tY (by show ¬((2:Int)=3);decide)];done)⟩
instance adA(l1 l2:ByteArray)(a c d:P2)(q1:Rat)(r2:Rq):DenI Tryz.prog 96 [.agg [.v (.int .i64 3),.v (.string l1),.sl 8 [bn a],zs q1.num,zl q1.num,zs q1.den,zl q1.den],.agg [.v (.int .i64 1),.v (.string l2),.sl 8 [bn c,bn d],.v (.bool r2.a),bJ r2.l,.v (.bool r2.b),bJ r2.m]] (dn a∧dn c∧dn d∧rz q1≤12) (.bool (iP ⟨3,l1,[a],nJ q1⟩ ⟨1,l2,[c,d],r2⟩)):=⟨λhp=>by
 obtain ⟨g1,g2,g3,g4⟩:=hp
 all_goals refine qA (τ:=tab) aa8 fF Tryz.func96 rfl (by kernel_rfl) (by kernel_rfl) (by kernel_rfl) ?_
 all_goals (repeat' ((try (conv=>whnf));first
  |refine aG ?_
  |refine ak ?_ ?_
  |(with_reducible refine aJ ?_)
  |(with_reducible refine aK ?_)
  |(with_reducible refine au (λ_=>?_) (λ_=>?_))
  |(with_reducible refine bG (λ_=>?_) (λ_=>?_))
  |refine OnB.mk (λ_=>?_) (λ_=>?_)
  |refine Drw.mk (by kernel_rfl) ?_
  |(with_reducible refine bF ?_)
  |refine Ends.mk ?_))
 all_goals (try refine Pr.mk ?_)
 all_goals (try simp only [dU] at *)
 all_goals first
  |(exfalso;rename ¬True=>h;exact h trivial)
  |(exfalso;omega)
  |(refine bE ?_;rw [tY (by show ¬((3:Int)=1);decide)];done)⟩
instance aef(l1 l2:ByteArray)(a c n d:P2)(q1:Rat)(r2:Rq):DenI Tryz.prog 96 [.agg [.v (.int .i64 3),.v (.string l1),.sl 8 [bn a],zs q1.num,zl q1.num,zs q1.den,zl q1.den],.agg [.v (.int .i64 2),.v (.string l2),.sl 8 [bn c,bn n,bn d],.v (.bool r2.a),bJ r2.l,.v (.bool r2.b),bJ r2.m]] (dn a∧dn c∧dn n∧dn d∧rz q1≤12) (.bool (iP ⟨3,l1,[a],nJ q1⟩ ⟨2,l2,[c,n,d],r2⟩)):=⟨λhp=>by
 obtain ⟨g1,g2,g3,g4,g5⟩:=hp
 all_goals refine qA (τ:=tab) aa8 fF Tryz.func96 rfl (by kernel_rfl) (by kernel_rfl) (by kernel_rfl) ?_
 all_goals (repeat' ((try (conv=>whnf));first
  |refine aG ?_
  |refine ak ?_ ?_
  |(with_reducible refine aJ ?_)
  |(with_reducible refine aK ?_)
  |(with_reducible refine au (λ_=>?_) (λ_=>?_))
  |(with_reducible refine bG (λ_=>?_) (λ_=>?_))
  |refine OnB.mk (λ_=>?_) (λ_=>?_)
  |refine Drw.mk (by kernel_rfl) ?_
  |(with_reducible refine bF ?_)
  |refine Ends.mk ?_))
 all_goals (try refine Pr.mk ?_)
 all_goals (try simp only [dU] at *)
 all_goals first
  |(exfalso;rename ¬True=>h;exact h trivial)
  |(exfalso;omega)
  |(refine bE ?_;rw [tY (by show ¬((3:Int)=2);decide)];done)⟩
instance adv(l1 l2:ByteArray)(a c:P2)(q1:Rat)(q2:Rat):DenI Tryz.prog 96 [.agg [.v (.int .i64 3),.v (.string l1),.sl 8 [bn a],zs q1.num,zl q1.num,zs q1.den,zl q1.den],.agg [.v (.int .i64 3),.v (.string l2),.sl 8 [bn c],zs q2.num,zl q2.num,zs q2.den,zl q2.den]] (dn a∧dn c∧rz q1≤12∧rz q2≤12) (.bool (iP ⟨3,l1,[a],nJ q1⟩ ⟨3,l2,[c],nJ q2⟩)):=⟨λhp=>by
 obtain ⟨g1,g2,g3,g4⟩:=hp
 all_goals refine qA (τ:=tab) aa8 fF Tryz.func96 rfl (by kernel_rfl) (by kernel_rfl) (by kernel_rfl) ?_
 all_goals (repeat' ((try (conv=>whnf));first
  |refine aG ?_
  |refine ak ?_ ?_
  |(with_reducible refine aJ ?_)
  |(with_reducible refine aK ?_)
  |(with_reducible refine au (λ_=>?_) (λ_=>?_))
  |(with_reducible refine bG (λ_=>?_) (λ_=>?_))
  |refine OnB.mk (λ_=>?_) (λ_=>?_)
  |refine Drw.mk (by kernel_rfl) ?_
  |(with_reducible refine bF ?_)
  |refine Ends.mk ?_))
 all_goals (try refine Pr.mk ?_)
 all_goals (try simp only [dU] at *)
 all_goals first
  |(exfalso;rename ¬True=>h;exact h trivial)
  |exact ⟨Nat.le_trans g1.1 (by decide),Nat.le_trans g1.2 (by decide),Nat.le_trans g2.1 (by decide),Nat.le_trans g2.2 (by decide)⟩
  |exact ⟨Nat.le_trans g3 (by decide),Nat.le_trans g4 (by decide)⟩
  |(refine bE ?_;rw [UW];simp only [Bool.not_eq_true',Bool.not_eq_false'] at *;simp only [pE, *,Bool.and_true,Bool.true_and,Bool.and_false,Bool.false_and,Bool.or_false,Bool.false_or,Bool.or_true,Bool.true_or,decide_true,decide_false,if_true,if_false,Bool.false_eq_true,Bool.not_true,Bool.not_false,beq_self_eq_true];done)⟩
instance (priority:=2000) afI(e f:Ent):DenI Tryz.prog 96 [.agg (bZ e),.agg (bZ f)] (okV e∧okV f) (.bool (iP e f)):=⟨λ⟨h1,h2⟩=>by
 rcases yg h1 with ⟨l1,a,b,r1,rfl,g1,g3,_⟩|⟨l1,a,m,b,r1,rfl,g1,g2,g3,_⟩|⟨l1,a,q1,rfl,g1,_,g7,_⟩<;>rcases yg h2 with ⟨l2,c,d,r2,rfl,g4,g6,_⟩|⟨l2,c,n,d,r2,rfl,g4,g5,g6,_⟩|⟨l2,c,q2,rfl,g4,_,g8,_⟩
 ·exact (aeH l1 l2 a b c d r1 r2).den ⟨g1,g3,g4,g6⟩
 ·exact (adW l1 l2 a b c n d r1 r2).den ⟨g1,g3,g4,g5,g6⟩
 ·exact (aeO l1 l2 a b c r1 q2).den ⟨g1,g3,g4,g8⟩
 ·exact (aej l1 l2 a m b c d r1 r2).den ⟨g1,g2,g3,g4,g6⟩
 ·exact (adD l1 l2 a m b c n d r1 r2).den ⟨g1,g2,g3,g4,g5,g6⟩
 ·exact (ad4 l1 l2 a m b c r1 q2).den ⟨g1,g2,g3,g4,g8⟩
 ·exact (adA l1 l2 a c d q1 r2).den ⟨g1,g4,g6,g7⟩
 ·exact (aef l1 l2 a c n d q1 r2).den ⟨g1,g4,g5,g6,g7⟩
 ·exact (adv l1 l2 a c q1 q2).den ⟨g1,g4,g7,g8⟩⟩
instance (priority:=2000) ahg(e:Ent):DenI Tryz.prog 95 [.agg (bZ e)] (e.kind=2∧okV e) (.bool (CU e)):=⟨λ⟨h0,h1⟩=>by
 rcases yg h1 with ⟨l1,a,b,r1,rfl,_⟩|⟨l1,a,m,b,r1,rfl,g1,g2,g3,_⟩|⟨l1,a,q1,rfl,_⟩
 ·cases h0
 ·exact (ad3 l1 a m b r1).den ⟨g1,g2,g3⟩
 ·cases h0⟩
@[reducible] def bC(b:Bool):List Cell:=[.v (.bool b)]
instance agi(l:List (Ent × Nat)):DenI Tryz.prog 52 [.c (.sl 8 (l.map kH))] (l.length≤12∧∀x∈l,okV x.1) (.c (.sl 1 ((fK (l.map (·.1))).map bC))):=⟨λhp=>by
 obtain ⟨h1,h4⟩:=hp
 all_goals refine qA (τ:=tab) aa8 fF Tryz.func52 rfl (by kernel_rfl) (by kernel_rfl) (by kernel_rfl) ?_
 all_goals (repeat' ((try (conv=>whnf));first
  |refine dH ?_ ?_))
 all_goals (try refine Pr.mk ?_)
 all_goals first
  |((conv=>whnf);refine Sw.Loop.inv (α:=Nat) (λx=>[(0,.c (.sl 8 (l.map kH))),(3,.gs 8 l.length),(10,.int .i64 (l.length:Nat)),(11,.int .i64 (x:Nat))]) (λx=>[(8,.grow 4 1 ((yS (l.map (·.1)) x).map bC))]) (λx=>x≤l.length) (λx=>l.length-x) 0 ?_ ?_ ?_ (λx hx=>?_))
  |skip
 all_goals (repeat' ((try (conv=>whnf));first
  |(with_reducible refine au (λ_=>?_) (λ_=>?_))
  |refine aU ?_ ?_
  |refine Ends.mk ?_))
 all_goals (try refine Pr.mk ?_)
 all_goals first
  |((conv=>whnf);refine Sw.Loop.inv (α:=Nat) (λk=>[(0,.c (.sl 8 (l.map kH))),(3,.gs 8 l.length),(4,.int .i64 (x:Nat)),(10,.int .i64 (l.length:Nat)),(11,.int .i64 (x:Nat)),(14,.int .i64 (x:Nat)),(15,.int .i64 (k:Nat))]) (λk=>[(8,.grow 4 1 ((yS (l.map (·.1)) x).map bC))]) (λk=>k≤x∧uO (l.map (·.1)) x k=false) (λk=>x-k) 0 ?_ ?_ ?_ (λk hk=>?_))
  |skip
 all_goals (repeat' ((try (conv=>whnf));first
  |refine ak ?_ ?_
  |(with_reducible refine aJ ?_)
  |(with_reducible refine aK ?_)
  |(with_reducible refine au (λ_=>?_) (λ_=>?_))
  |refine OnB.mk (λ_=>?_) (λ_=>?_)
  |refine aU ?_ ?_
  |refine Drw.mk (by kernel_rfl) ?_
  |refine aN N0 ?_ ?_
  |refine aN false ?_ ?_))
 all_goals (try refine Pr.mk ?_)
 all_goals (try simp only [List.length_map,Int.toNat_natCast] at *)
 all_goals first
  |omega
  |trivial
  |exact ⟨Nat.zero_le _,rfl⟩
  |((with_reducible show SubB _ _);refine ⟨?_,trivial⟩;show some (Bk.grow 4 1 _)=some (Bk.grow 4 1 _);rw [adZ,List.map_replicate,List.length_map])
  |(have hrl:=rpL (l:=l) (x:=x) (by omega);omega)
  |exact ⟨EI h4 (by omega),EI h4 (by omega)⟩
  |((with_reducible show aB _=_);have hxx:x=l.length:=(by omega);subst hxx;rw [Yn];rfl)
  |(have hh:=abS (l:=l) (x:=x) (k:=k) (by omega) (by omega) hk.2 (by first|exact .inl (by assumption)|exact .inr (by assumption));(conv=>whnf);exact ⟨k+1,⟨⟨rfl,rfl,rfl,rfl,rfl,rfl,aX (by omega),trivial⟩,⟨rfl,trivial⟩,⟨by omega,hh⟩,(by show x-(k+1)<x-k;omega)⟩⟩)
  |(have hh:=aci (l:=l) (x:=x) (k:=k) (by omega) (by omega) (by assumption) (by assumption);(conv=>whnf);exact ⟨x+1,⟨⟨rfl,rfl,rfl,aX (by omega),trivial⟩,⟨(by rw [hh,List.map_set];(first|done|rfl)),trivial⟩,by omega,(by show l.length-(x+1)<l.length-x;omega)⟩⟩)
  |(have hxx:k=x:=(by omega);subst hxx;have hh:=adI (l:=l) (x:=k) (by omega) hk.2;(conv=>whnf);exact ⟨k+1,⟨⟨rfl,rfl,rfl,aX (by omega),trivial⟩,⟨(by rw [hh];(first|done|rfl)),trivial⟩,by omega,(by show l.length-(k+1)<l.length-k;omega)⟩⟩)⟩
instance ZV(l:List (Ent × Nat))(i k:Nat)(v:P2):DenI Tryz.prog 97 [.c (.sl 8 (l.map kH)),.int .i64 (i:Nat),.int .i64 (k:Nat),.agg (bn v)] (l.length≤12∧i<l.length∧k≤1∧dn v∧∀x∈l,XY x.1) (.bool (CZ l (l.getD i N0).1.layer i k v)):=⟨λ⟨h1,h2,hk,h3,h4⟩=>by
 refine qA (τ:=F9) lq fF Tryz.func97 rfl (by kernel_rfl) (by kernel_rfl) (by kernel_rfl) ?_
 (conv=>whnf)
 refine Sw.Loop.inv (α:=Nat) (λx=>[(0,.c (.sl 8 (l.map kH))),(1,.int .i64 (i:Nat)),(2,.int .i64 (k:Nat)),(7,.ptr 7 0),(15,.c (.sl 8 (l.map kH))),(16,.int .i64 (l.length:Nat)),(17,.int .i64 (x:Nat))]) (λx=>[(7,.var (bn v))]) (λx=>x≤l.length∧∀j<x,metAt l (l.getD i N0).1.layer i k v j=false) (λx=>l.length-x) 0 ?_ ?_ ?_ (λx hx=>?_)
 ·exact ⟨rfl,rfl,rfl,rfl,rfl,by simp only [List.length_map];rfl,rfl,trivial⟩
 ·exact ⟨rfl,trivial⟩
 ·exact ⟨Nat.zero_le _,λj hj=>absurd hj (Nat.not_lt_zero _)⟩
 obtain ⟨hx1,hx2⟩:=hx;obtain ⟨g1,g2,g3⟩:=OB h4 x;rcases oQ (l.getD x N0).1 with hE|⟨a,b,hE⟩
 ·haveI ie:DenI Tryz.prog 30 [.agg (bZ (l.getD (Int.toNat ((x:Nat):Int)) N0).1)] ((l.getD x N0).1.pts.length≤1000000) (.tup [.c (.sl 8 []),.bool false]):=⟨λhp=>by have:=(mX (l.getD x N0).1).den hp;rw [hE] at this;simpa using this⟩
  all_goals (repeat' ((try (conv=>whnf));first
   |refine ak ?_ ?_
   |(with_reducible refine au (λ_=>?_) (λ_=>?_))
   |refine OnB.mk (λ_=>?_) (λ_=>?_)
   |refine Drw.mk (by kernel_rfl) ?_
   |refine aN N0 ?_ ?_
   |refine Ends.mk ?_))
  all_goals (try refine Pr.mk ?_)
  all_goals first
   |((conv=>whnf);refine Sw.Loop.unroll ?_)
   |skip
  all_goals (repeat' ((try rw [Na]);(try rw [Hr]);(try (conv=>whnf));first
   |refine Bv (by simp only [List.length_cons,List.length_nil];decide) ?_))
  all_goals (try simp only [List.length_map,Int.toNat_natCast] at *)
  all_goals first
   |omega
   |((with_reducible show aB [AV.c (Cell.v (Value.bool false))]=_);have hxx:x=l.length:=(by omega);subst hxx;rw [Tf hx2];rfl)
   |(have hm:=DT (i:=i) (k:=k) (v:=v) (l:=l) (x:=x) (by omega) (by assumption);(conv=>whnf);exact ⟨x+1,⟨⟨rfl,rfl,rfl,rfl,rfl,rfl,aX (by omega),trivial⟩,⟨rfl,trivial⟩,⟨by omega,wJ hx2 hm⟩,(by show l.length-(x+1)<l.length-x;omega)⟩⟩)
   |(have hm:=Pm (s:=(l.getD i N0).1.layer) (i:=i) (k:=k) (v:=v) (l:=l) (x:=x) (by omega) hE;(conv=>whnf);exact ⟨x+1,⟨⟨rfl,rfl,rfl,rfl,rfl,rfl,aX (by omega),trivial⟩,⟨rfl,trivial⟩,⟨by omega,wJ hx2 hm⟩,(by show l.length-(x+1)<l.length-x;omega)⟩⟩)
 ·haveI ie:DenI Tryz.prog 30 [.agg (bZ (l.getD (Int.toNat ((x:Nat):Int)) N0).1)] ((l.getD x N0).1.pts.length≤1000000) (.tup [.c (.sl 8 [bn a,bn b]),.bool true]):=⟨λhp=>by have:=(mX (l.getD x N0).1).den hp;rw [hE] at this;simpa using this⟩
  have ha:dn a:=g1 a (fU (by rw [hE];simp));have hb:dn b:=g1 b (fU (by rw [hE];simp))
  all_goals (repeat' ((try (conv=>whnf));first
   |refine ak ?_ ?_
   |(with_reducible refine au (λ_=>?_) (λ_=>?_))
   |refine OnB.mk (λ_=>?_) (λ_=>?_)
   |refine Drw.mk (by kernel_rfl) ?_
   |refine aN N0 ?_ ?_
   |refine Ends.mk ?_))
  all_goals (try refine Pr.mk ?_)
  all_goals first
   |((conv=>whnf);refine Sw.Loop.unroll ?_)
   |skip
  all_goals (repeat' ((try rw [Na]);(try rw [Hr]);(try (conv=>whnf));first
   |refine ak ?_ ?_
   |(with_reducible refine aJ ?_)
   |(with_reducible refine aK ?_)
   |(with_reducible refine au (λ_=>?_) (λ_=>?_))
   |(with_reducible refine bG (λ_=>?_) (λ_=>?_))
   |refine OnB.mk (λ_=>?_) (λ_=>?_)
   |(with_reducible refine bF ?_)
   |refine Ends.mk ?_))
  all_goals (try refine Pr.mk ?_)
  all_goals first
   |((conv=>whnf);refine Sw.Loop.unroll ?_)
   |skip
  all_goals (repeat' ((try rw [Na]);(try rw [Hr]);(try (conv=>whnf));first
   |refine ak ?_ ?_
   |(with_reducible refine aJ ?_)
   |(with_reducible refine aK ?_)
   |(with_reducible refine au (λ_=>?_) (λ_=>?_))
   |(with_reducible refine bG (λ_=>?_) (λ_=>?_))
   |refine OnB.mk (λ_=>?_) (λ_=>?_)
   |(with_reducible refine bM ?_)
   |refine Ends.mk ?_))
  all_goals (try refine Pr.mk ?_)
  all_goals first
   |((conv=>whnf);refine Sw.Loop.unroll ?_)
   |skip
  all_goals (repeat' ((try rw [Na]);(try rw [Hr]);(try (conv=>whnf));first
   |(with_reducible refine au (λ_=>?_) (λ_=>?_))))
  all_goals (try simp only [List.length_map,Int.toNat_natCast] at *)
  all_goals first
   |omega
   |((with_reducible show _∧_);first|omega|exact ⟨Nat.le_trans h3.1 (by decide),Nat.le_trans h3.2 (by decide),Nat.le_trans ha.1 (by decide),Nat.le_trans ha.2 (by decide)⟩|exact ⟨Nat.le_trans h3.1 (by decide),Nat.le_trans h3.2 (by decide),Nat.le_trans hb.1 (by decide),Nat.le_trans hb.2 (by decide)⟩)
   |((with_reducible show aB [AV.c (Cell.v (Value.bool false))]=_);have hxx:x=l.length:=(by omega);subst hxx;rw [Tf hx2];rfl)
   |((with_reducible show aB [AV.c (Cell.v (Value.bool true))]=_);rw [abX (x:=x) (by omega) (by (rw [NQ (by omega) hE (by assumption)];clear hx2 h4;grind))];rfl)
   |(exfalso;rename_i q;simp at q;done)
   |(have hm:=DT (i:=i) (k:=k) (v:=v) (l:=l) (x:=x) (by omega) (by assumption);(conv=>whnf);exact ⟨x+1,⟨⟨rfl,rfl,rfl,rfl,rfl,rfl,aX (by omega),trivial⟩,⟨rfl,trivial⟩,⟨by omega,wJ hx2 hm⟩,(by show l.length-(x+1)<l.length-x;omega)⟩⟩)
   |(have hm:metAt l (l.getD i N0).1.layer i k v x=false:=(by (rw [NQ (by omega) hE (by assumption)];clear hx2 h4;grind));(conv=>whnf);exact ⟨x+1,⟨⟨rfl,rfl,rfl,rfl,rfl,rfl,aX (by omega),trivial⟩,⟨rfl,trivial⟩,⟨by omega,wJ hx2 hm⟩,(by show l.length-(x+1)<l.length-x;omega)⟩⟩)⟩
instance agt(l:List (Ent × Nat))(i:Nat)(v:P2):DenI Tryz.prog 97 [.c (.sl 8 (l.map kH)),.int .i64 (i:Nat),.int .i64 0,.agg (bn v)] (l.length≤12∧i<l.length∧dn v∧∀x∈l,XY x.1) (.bool (CZ l (l.getD i N0).1.layer i 0 v)):=⟨λhp=>(ZV l i 0 v).den ⟨hp.1,hp.2.1,by omega,hp.2.2⟩⟩
instance afC(l:List (Ent × Nat))(i:Nat)(v:P2):DenI Tryz.prog 97 [.c (.sl 8 (l.map kH)),.int .i64 (i:Nat),.int .i64 1,.agg (bn v)] (l.length≤12∧i<l.length∧dn v∧∀x∈l,XY x.1) (.bool (CZ l (l.getD i N0).1.layer i 1 v)):=⟨λhp=>(ZV l i 1 v).den ⟨hp.1,hp.2.1,by omega,hp.2.2⟩⟩
instance agL(l:List (Ent × Nat)):DenI Tryz.prog 54 [.c (.sl 8 (l.map kH))] (l.length≤12∧∀x∈l,XY x.1) (.c (.sl 19 ((Ec l).map vZ))):=⟨λ⟨h1,h4⟩=>by
 refine qA (τ:=F9) lq fF Tryz.func54 rfl (by kernel_rfl) (by kernel_rfl) (by kernel_rfl) ?_
 (conv=>whnf)
 refine Sw.Loop.ghost 3 100 47 19 ?_ rfl rfl rfl (by decide);refine Sw.Loop.inv (α:=Nat) (λx=>[(0,.c (.sl 8 (l.map kH))),(10,.c (.sl 8 (l.map kH))),(11,.int .i64 (l.length:Nat)),(12,.int .i64 (x:Nat)),(3,.gs 100 ((Vr l x).map vZ).length)]) (λx=>[(100,.grow 47 19 ((Vr l x).map vZ))]) (λx=>x≤l.length) (λx=>l.length-x) 0 ?_ ?_ ?_ (λx hx=>?_)
 ·exact ⟨rfl,rfl,by simp only [List.length_map];rfl,rfl,rfl,trivial⟩
 ·exact ⟨rfl,trivial⟩
 ·exact Nat.zero_le _
 have hol:=zU l x hx;obtain ⟨g1,g2,g3⟩:=OB h4 x;rcases oQ (l.getD x N0).1 with hE|⟨a,b,hE⟩
 ·haveI ie:DenI Tryz.prog 30 [.agg (bZ (l.getD (Int.toNat ((x:Nat):Int)) N0).1)] ((l.getD x N0).1.pts.length≤1000000) (.tup [.c (.sl 8 []),.bool false]):=⟨λhp=>by have:=(mX (l.getD x N0).1).den hp;rw [hE] at this;simpa using this⟩
  all_goals (repeat' ((try (conv=>whnf));first
   |refine ak ?_ ?_
   |(with_reducible refine au (λ_=>?_) (λ_=>?_))
   |refine aU ?_ ?_
   |refine aN N0 ?_ ?_
   |refine Ends.mk ?_))
  all_goals (try refine Pr.mk ?_)
  all_goals first
   |((conv=>whnf);refine Sw.Loop.unroll ?_)
   |skip
  all_goals (repeat' ((try rw [Na]);(try rw [Hr]);(try (conv=>whnf));first
   |refine Bv (by simp only [List.length_cons,List.length_nil];decide) ?_))
  all_goals (try simp only [List.length_map,Int.toNat_natCast] at *)
  all_goals first
   |omega
   |((with_reducible show aB _=_);have hxx:x=l.length:=(by omega);subst hxx;rfl)
   |(have hA:=MK (l:=l) (x:=x) (by omega) hE;(conv=>whnf);exact ⟨x+1,⟨⟨rfl,rfl,rfl,aX (by omega),(by (simp only [hA,List.map_append,List.map_cons,List.map_nil,List.append_nil,List.length_append,List.length_map,List.length_cons,List.length_nil]);(first|done|rfl)),trivial⟩,⟨(by (simp only [hA,List.map_append,List.map_cons,List.map_nil,List.append_nil]);(first|done|rfl)),trivial⟩,by omega,(by show l.length-(x+1)<l.length-x;omega)⟩⟩)
 ·haveI ie:DenI Tryz.prog 30 [.agg (bZ (l.getD (Int.toNat ((x:Nat):Int)) N0).1)] ((l.getD x N0).1.pts.length≤1000000) (.tup [.c (.sl 8 [bn a,bn b]),.bool true]):=⟨λhp=>by have:=(mX (l.getD x N0).1).den hp;rw [hE] at this;simpa using this⟩
  have ha:dn a:=g1 a (fU (by rw [hE];simp));have hb:dn b:=g1 b (fU (by rw [hE];simp))
  all_goals (repeat' ((try (conv=>whnf));first
   |refine ak ?_ ?_
   |(with_reducible refine au (λ_=>?_) (λ_=>?_))
   |refine aU ?_ ?_
   |refine aN N0 ?_ ?_
   |refine Ends.mk ?_))
  all_goals (try refine Pr.mk ?_)
  all_goals first
   |((conv=>whnf);refine Sw.Loop.unroll ?_)
   |skip
  all_goals (repeat' ((try rw [Na]);(try rw [Hr]);(try (conv=>whnf));first
   |refine ak ?_ ?_
   |(with_reducible refine au (λ_=>?_) (λ_=>?_))
   |refine OnB.mk (λ_=>?_) (λ_=>?_)
   |refine aU ?_ ?_
   |(with_reducible refine bF ?_)))
  all_goals (try refine Pr.mk ?_)
  all_goals first
   |((conv=>whnf);refine Sw.Loop.unroll ?_)
   |skip
  all_goals (repeat' ((try rw [Na]);(try rw [Hr]);(try (conv=>whnf));first
   |refine ak ?_ ?_
   |(with_reducible refine au (λ_=>?_) (λ_=>?_))
   |refine OnB.mk (λ_=>?_) (λ_=>?_)
   |refine aU ?_ ?_
   |(with_reducible refine bM ?_)))
  all_goals (try refine Pr.mk ?_)
  all_goals first
   |((conv=>whnf);refine Sw.Loop.unroll ?_)
   |skip
  all_goals (repeat' ((try rw [Na]);(try rw [Hr]);(try (conv=>whnf));first
   |(with_reducible refine au (λ_=>?_) (λ_=>?_))))
  all_goals (try simp only [List.length_map,Int.toNat_natCast] at *)
  all_goals first
   |omega
   |((with_reducible show (_:Nat)≤_);simp only [List.length_append,List.length_map,List.length_cons,List.length_nil];omega)
   |((with_reducible show _∧_);first|omega|exact ⟨h1,by omega,ha,h4⟩|exact ⟨h1,by omega,hb,h4⟩)
   |((with_reducible show aB _=_);have hxx:x=l.length:=(by omega);subst hxx;rfl)
   |(exfalso;rename_i q;simp at q;done)
   |(have hA:=MW (l:=l) (x:=x) (by omega) hE;first|(have q1:=FW (n:=(l.getD x N0).2) (l:=l) (s:=(l.getD x N0).1.layer) (i:=x) (k:=0) (v:=a) (by assumption);have q2:=FW (n:=(l.getD x N0).2) (l:=l) (s:=(l.getD x N0).1.layer) (i:=x) (k:=1) (v:=b) (by assumption);(conv=>whnf);exact ⟨x+1,⟨⟨rfl,rfl,rfl,aX (by omega),(by (simp only [hA,q1,q2,List.nil_append,List.cons_append,List.append_assoc,List.map_append,List.map_cons,List.map_nil,List.append_nil,List.length_append,List.length_map,List.length_cons,List.length_nil]);(first|done|rfl)),trivial⟩,⟨(by (simp only [hA,q1,q2,List.nil_append,List.cons_append,List.append_assoc,List.map_append,List.map_cons,List.map_nil,List.append_nil]);(first|done|rfl)),trivial⟩,by omega,(by show l.length-(x+1)<l.length-x;omega)⟩⟩)|(have q1:=FW (n:=(l.getD x N0).2) (l:=l) (s:=(l.getD x N0).1.layer) (i:=x) (k:=0) (v:=a) (by assumption);have q2:=Fg (n:=(l.getD x N0).2) (l:=l) (s:=(l.getD x N0).1.layer) (i:=x) (k:=1) (v:=b) (by assumption);(conv=>whnf);exact ⟨x+1,⟨⟨rfl,rfl,rfl,aX (by omega),(by (simp only [hA,q1,q2,List.nil_append,List.cons_append,List.append_assoc,List.map_append,List.map_cons,List.map_nil,List.append_nil,List.length_append,List.length_map,List.length_cons,List.length_nil]);(first|done|rfl)),trivial⟩,⟨(by (simp only [hA,q1,q2,List.nil_append,List.cons_append,List.append_assoc,List.map_append,List.map_cons,List.map_nil,List.append_nil]);(first|done|rfl)),trivial⟩,by omega,(by show l.length-(x+1)<l.length-x;omega)⟩⟩)|(have q1:=Fg (n:=(l.getD x N0).2) (l:=l) (s:=(l.getD x N0).1.layer) (i:=x) (k:=0) (v:=a) (by assumption);have q2:=FW (n:=(l.getD x N0).2) (l:=l) (s:=(l.getD x N0).1.layer) (i:=x) (k:=1) (v:=b) (by assumption);(conv=>whnf);exact ⟨x+1,⟨⟨rfl,rfl,rfl,aX (by omega),(by (simp only [hA,q1,q2,List.nil_append,List.cons_append,List.append_assoc,List.map_append,List.map_cons,List.map_nil,List.append_nil,List.length_append,List.length_map,List.length_cons,List.length_nil]);(first|done|rfl)),trivial⟩,⟨(by (simp only [hA,q1,q2,List.nil_append,List.cons_append,List.append_assoc,List.map_append,List.map_cons,List.map_nil,List.append_nil]);(first|done|rfl)),trivial⟩,by omega,(by show l.length-(x+1)<l.length-x;omega)⟩⟩)|(have q1:=Fg (n:=(l.getD x N0).2) (l:=l) (s:=(l.getD x N0).1.layer) (i:=x) (k:=0) (v:=a) (by assumption);have q2:=Fg (n:=(l.getD x N0).2) (l:=l) (s:=(l.getD x N0).1.layer) (i:=x) (k:=1) (v:=b) (by assumption);(conv=>whnf);exact ⟨x+1,⟨⟨rfl,rfl,rfl,aX (by omega),(by (simp only [hA,q1,q2,List.nil_append,List.cons_append,List.append_assoc,List.map_append,List.map_cons,List.map_nil,List.append_nil,List.length_append,List.length_map,List.length_cons,List.length_nil]);(first|done|rfl)),trivial⟩,⟨(by (simp only [hA,q1,q2,List.nil_append,List.cons_append,List.append_assoc,List.map_append,List.map_cons,List.map_nil,List.append_nil]);(first|done|rfl)),trivial⟩,by omega,(by show l.length-(x+1)<l.length-x;omega)⟩⟩))⟩
set_option maxHeartbeats 16000000 in
instance ahH(l:List (Ent × Nat)):DenI Tryz.prog 51 [.c (.sl 8 (l.map kH))] (l.length≤12∧∀x∈l,okV x.1) (.tup [.c (.sl 8 ((sG l).map kH)),.c (.sl 19 ((qP l).map vZ))]):=⟨λ⟨h1,h4⟩=>by
 refine qA (τ:=F9) lq fF Tryz.func51 rfl (by kernel_rfl) (by kernel_rfl) (by kernel_rfl) ?_
 (conv=>whnf)
 refine Sw.Loop.ghost 4 100 86 8 ?_ rfl rfl rfl (by decide);refine Sw.Loop.ghost 5 101 47 19 ?_ rfl rfl rfl (by decide);refine Sw.Loop.inv (α:=Nat) (λx=>[(10,.c (.sl 8 (l.map kH))),(11,.int .i64 (l.length:Nat)),(12,.int .i64 (x:Nat)),(4,.gs 100 ((QK l x).map kH).length),(5,.gs 101 ((QL l x).map vZ).length)]) (λx=>[(100,.grow 86 8 ((QK l x).map kH)),(101,.grow 47 19 ((QL l x).map vZ))]) (λx=>x≤l.length) (λx=>l.length-x) 0 ?_ ?_ ?_ (λx hx=>?_)
 ·exact ⟨rfl,by simp only [List.length_map];rfl,rfl,rfl,rfl,trivial⟩
 ·exact ⟨rfl,rfl,trivial⟩
 ·exact Nat.zero_le _
 obtain ⟨hk1,hk2⟩:=Fj l x
 by_cases hxl:x<l.length
 ·have g0:=EI h4 hxl;obtain ⟨g1,g2,g3⟩:=g0.2;rcases oQ (l.getD x N0).1 with hE|⟨a,b,hE⟩
  ·haveI ie:DenI Tryz.prog 30 [.agg (bZ (l.getD (Int.toNat ((x:Nat):Int)) N0).1)] ((l.getD x N0).1.pts.length≤1000000) (.tup [.c (.sl 8 []),.bool false]):=⟨λhp=>by have:=(mX (l.getD x N0).1).den hp;rw [hE] at this;simpa using this⟩
   all_goals (repeat' ((try (conv=>whnf));first
    |refine ak ?_ ?_
    |(with_reducible refine aJ ?_)
    |(with_reducible refine aK ?_)
    |(with_reducible refine au (λ_=>?_) (λ_=>?_))
    |refine OnB.mk (λ_=>?_) (λ_=>?_)
    |refine aU ?_ ?_
    |refine Drw.mk (by kernel_rfl) ?_
    |refine aN N0 ?_ ?_
    |refine Ends.mk ?_))
   all_goals (try refine Pr.mk ?_)
   all_goals (try simp only [List.length_map,Int.toNat_natCast] at *)
   all_goals first
    |omega
    |((with_reducible show (_:Nat)≤_);simp only [List.length_append,List.length_map,List.length_cons,List.length_nil];omega)
    |exact ⟨by assumption,g0⟩
    |(have hf:jU (l.getD x N0).1=5:=(by rw [L9 hE,if_pos ⟨by assumption,by assumption⟩]);obtain ⟨h5,h6⟩:=Vp (l:=l) (x:=x) (k:=4) (by omega) hf;(conv=>whnf);exact ⟨x+1,⟨⟨rfl,rfl,aX (by omega),(by (simp only [h5,h6,List.map_append,List.map_cons,List.map_nil,List.append_nil,List.length_append,List.length_map,List.length_cons,List.length_nil]);(first|done|rfl)),(by (simp only [h5,h6,List.map_append,List.map_cons,List.map_nil,List.append_nil,List.length_append,List.length_map,List.length_cons,List.length_nil]);(first|done|rfl)),trivial⟩,⟨(by (simp only [h5,h6,List.map_append,List.map_cons,List.map_nil,List.append_nil]);(first|done|rfl)),(by (simp only [h5,h6,List.map_append,List.map_cons,List.map_nil,List.append_nil]);(first|done|rfl)),trivial⟩,by omega,(by show l.length-(x+1)<l.length-x;omega)⟩⟩)
    |(have hf:jU (l.getD x N0).1=0:=(by rw [L9 hE,if_neg (by simp_all;done)]);obtain ⟨h5,h6⟩:=Zl (l:=l) (x:=x) (by omega) hf;(conv=>whnf);exact ⟨x+1,⟨⟨rfl,rfl,aX (by omega),(by (simp only [h5,h6,List.map_append,List.map_cons,List.map_nil,List.append_nil,List.length_append,List.length_map,List.length_cons,List.length_nil]);(first|done|rfl)),(by (simp only [h5,h6,List.map_append,List.map_cons,List.map_nil,List.append_nil,List.length_append,List.length_map,List.length_cons,List.length_nil]);(first|done|rfl)),trivial⟩,⟨(by (simp only [h5,h6,List.map_append,List.map_cons,List.map_nil,List.append_nil]);(first|done|rfl)),(by (simp only [h5,h6,List.map_append,List.map_cons,List.map_nil,List.append_nil]);(first|done|rfl)),trivial⟩,by omega,(by show l.length-(x+1)<l.length-x;omega)⟩⟩)
  ·haveI ie:DenI Tryz.prog 30 [.agg (bZ (l.getD (Int.toNat ((x:Nat):Int)) N0).1)] ((l.getD x N0).1.pts.length≤1000000) (.tup [.c (.sl 8 [bn a,bn b]),.bool true]):=⟨λhp=>by have:=(mX (l.getD x N0).1).den hp;rw [hE] at this;simpa using this⟩
   have ha:dn a:=g1 a (fU (by rw [hE];simp));have hb:dn b:=g1 b (fU (by rw [hE];simp))
   all_goals (repeat' ((try (conv=>whnf));first
    |refine ak ?_ ?_
    |(with_reducible refine aJ ?_)
    |(with_reducible refine aK ?_)
    |(with_reducible refine au (λ_=>?_) (λ_=>?_))
    |refine OnB.mk (λ_=>?_) (λ_=>?_)
    |refine aU ?_ ?_
    |refine Drw.mk (by kernel_rfl) ?_
    |(with_reducible refine bF ?_)
    |(with_reducible refine bM ?_)
    |refine aN N0 ?_ ?_
    |refine Ends.mk ?_))
   all_goals (try refine Pr.mk ?_)
   all_goals (try simp only [List.length_map,Int.toNat_natCast] at *)
   all_goals first
    |omega
    |((with_reducible show (_:Nat)≤_);simp only [List.length_append,List.length_map,List.length_cons,List.length_nil];omega)
    |exact ⟨by assumption,g0⟩
    |exact ⟨Nat.le_trans ha.1 (by decide),Nat.le_trans ha.2 (by decide),Nat.le_trans hb.1 (by decide),Nat.le_trans hb.2 (by decide)⟩
    |(have hf:=WC (a:=a) (b:=b) hE (by assumption);obtain ⟨h5,h6⟩:=Vp (l:=l) (x:=x) (k:=1) (by omega) hf;(conv=>whnf);exact ⟨x+1,⟨⟨rfl,rfl,aX (by omega),(by (simp only [h5,h6,List.map_append,List.map_cons,List.map_nil,List.append_nil,List.length_append,List.length_map,List.length_cons,List.length_nil]);(first|done|rfl)),(by (simp only [h5,h6,List.map_append,List.map_cons,List.map_nil,List.append_nil,List.length_append,List.length_map,List.length_cons,List.length_nil]);(first|done|rfl)),trivial⟩,⟨(by (simp only [h5,h6,List.map_append,List.map_cons,List.map_nil,List.append_nil]);(first|done|rfl)),(by (simp only [h5,h6,List.map_append,List.map_cons,List.map_nil,List.append_nil]);(first|done|rfl)),trivial⟩,by omega,(by show l.length-(x+1)<l.length-x;omega)⟩⟩)
    |(have hf:jU (l.getD x N0).1=5:=(by rw [OQ (a:=a) (b:=b) hE (by assumption),if_pos ⟨by assumption,by assumption⟩]);obtain ⟨h5,h6⟩:=Vp (l:=l) (x:=x) (k:=4) (by omega) hf;(conv=>whnf);exact ⟨x+1,⟨⟨rfl,rfl,aX (by omega),(by (simp only [h5,h6,List.map_append,List.map_cons,List.map_nil,List.append_nil,List.length_append,List.length_map,List.length_cons,List.length_nil]);(first|done|rfl)),(by (simp only [h5,h6,List.map_append,List.map_cons,List.map_nil,List.append_nil,List.length_append,List.length_map,List.length_cons,List.length_nil]);(first|done|rfl)),trivial⟩,⟨(by (simp only [h5,h6,List.map_append,List.map_cons,List.map_nil,List.append_nil]);(first|done|rfl)),(by (simp only [h5,h6,List.map_append,List.map_cons,List.map_nil,List.append_nil]);(first|done|rfl)),trivial⟩,by omega,(by show l.length-(x+1)<l.length-x;omega)⟩⟩)
    |(have hf:jU (l.getD x N0).1=0:=(by rw [OQ (a:=a) (b:=b) hE (by assumption),if_neg (by simp_all;done)]);obtain ⟨h5,h6⟩:=Zl (l:=l) (x:=x) (by omega) hf;(conv=>whnf);exact ⟨x+1,⟨⟨rfl,rfl,aX (by omega),(by (simp only [h5,h6,List.map_append,List.map_cons,List.map_nil,List.append_nil,List.length_append,List.length_map,List.length_cons,List.length_nil]);(first|done|rfl)),(by (simp only [h5,h6,List.map_append,List.map_cons,List.map_nil,List.append_nil,List.length_append,List.length_map,List.length_cons,List.length_nil]);(first|done|rfl)),trivial⟩,⟨(by (simp only [h5,h6,List.map_append,List.map_cons,List.map_nil,List.append_nil]);(first|done|rfl)),(by (simp only [h5,h6,List.map_append,List.map_cons,List.map_nil,List.append_nil]);(first|done|rfl)),trivial⟩,by omega,(by show l.length-(x+1)<l.length-x;omega)⟩⟩)
 ·have hxx:x=l.length:=(by omega)
  subst hxx
  all_goals (repeat' ((try (conv=>whnf));first
   |refine ak ?_ ?_
   |(with_reducible refine aJ ?_)
   |(with_reducible refine aK ?_)
   |(with_reducible refine au (λ_=>?_) (λ_=>?_))
   |refine OnB.mk (λ_=>?_) (λ_=>?_)
   |refine aU ?_ ?_
   |refine Drw.mk (by kernel_rfl) ?_
   |refine aN N0 ?_ ?_
   |refine Ends.mk ?_))
  all_goals (try refine Pr.mk ?_)
  all_goals first
   |(exfalso;omega)
   |((with_reducible show (_:Nat)=_);rfl)
   |((with_reducible show aB _=_);rw [MO,OM];rfl)⟩
instance ah2(a:Rat):DenI Tryz.prog 23 [R a] (rz a≤10000000) (R (a*a)):=⟨λhp=>by
 have i_a:RzB a 10000000:=⟨hp⟩
 all_goals refine qA (τ:=tab) aa8 fF Tryz.func23 rfl (by kernel_rfl) (by kernel_rfl) (by kernel_rfl) ?_
 all_goals (repeat' ((try (conv=>whnf));first
  |refine aG ?_
  |refine ak ?_ ?_
  |refine jr ?_ (λ_=>?_) (λ_=>?_)
  |(with_reducible refine aJ ?_)
  |(with_reducible refine aK ?_)
  |(with_reducible refine au (λ_=>?_) (λ_=>?_))
  |(with_reducible refine bG (λ_=>?_) (λ_=>?_))
  |refine OnB.mk (λ_=>?_) (λ_=>?_)
  |refine aU ?_ ?_
  |refine Drw.mk (by kernel_rfl) ?_
  |refine dH ?_ ?_
  |refine dF ?_ ?_
  |(with_reducible refine bH ?_ ?_)
  |(with_reducible refine bF ?_)
  |(with_reducible refine bM ?_)
  |refine Ends.mk ?_))
 all_goals (try refine Pr.mk ?_)
 all_goals (try simp only [dU] at *)
 all_goals first
  |rfl
  |((repeat' apply And.intro)<;>first|assumption|exact uN (by omega)|exact vO (by omega)|exact Int.mul_ne_zero (aH _) (aH _))
  |(exfalso;simp_all;done)
  |(exfalso;grind)
  |omega
  |((repeat' apply And.intro)<;>first|assumption|exact uN (by omega)|exact vO (by omega)|exact Int.mul_ne_zero (aH _) (aH _))
  |skip⟩
instance ahU(a b c d:Rat):DenI Tryz.prog 25 [Q2 a b,Q2 c d] (rz a≤1000∧rz b≤1000∧rz c≤1000∧rz d≤1000) (R (iH (a,b) (c,d))):=⟨λhp=>by
 have i_a:RzB a 1000:=⟨hp.1⟩
 have i_b:RzB b 1000:=⟨hp.2.1⟩
 have i_c:RzB c 1000:=⟨hp.2.2.1⟩
 have i_d:RzB d 1000:=⟨hp.2.2.2⟩
 all_goals refine qA (τ:=tab) aa8 fF Tryz.func25 rfl (by kernel_rfl) (by kernel_rfl) (by kernel_rfl) ?_
 all_goals (repeat' ((try (conv=>whnf));first
  |refine aG ?_
  |refine ak ?_ ?_
  |refine jr ?_ (λ_=>?_) (λ_=>?_)
  |(with_reducible refine aJ ?_)
  |(with_reducible refine aK ?_)
  |(with_reducible refine au (λ_=>?_) (λ_=>?_))
  |(with_reducible refine bG (λ_=>?_) (λ_=>?_))
  |refine OnB.mk (λ_=>?_) (λ_=>?_)
  |refine aU ?_ ?_
  |refine Drw.mk (by kernel_rfl) ?_
  |refine dH ?_ ?_
  |refine dF ?_ ?_
  |(with_reducible refine bH ?_ ?_)
  |(with_reducible refine bF ?_)
  |(with_reducible refine bM ?_)
  |refine Ends.mk ?_))
 all_goals (try refine Pr.mk ?_)
 all_goals (try simp only [dU] at *)
 all_goals first
  |rfl
  |((repeat' apply And.intro)<;>first|assumption|exact uN (by omega)|exact vO (by omega)|exact Int.mul_ne_zero (aH _) (aH _))
  |(exfalso;simp_all;done)
  |(exfalso;grind)
  |omega
  |((repeat' apply And.intro)<;>first|assumption|exact uN (by omega)|exact vO (by omega)|exact Int.mul_ne_zero (aH _) (aH _))
  |skip⟩
instance aiB(sq:Rat)(sp:dX)(n:Nat)(s:ByteArray)(v:P2):DenI Tryz.prog 92 [.gh (Gi Tryz.prog 9 45 8 (GV sq sp n)),.c (.v (.string s)),.agg (bn v)] (s.size≤1000∧rz v.1≤12∧rz v.2≤12∧rz sq≤1000∧n≤1000000∧(∀p∈aZ sp s,rz p.1≤12∧rz p.2≤12)∧(aZ sp s).length≤1000000)
 (.tup [.gh (Gi Tryz.prog 9 45 8 (GV sq (dw sq sp s v).1 (n+1))),.agg (bn (dw sq sp s v).2)]):=⟨λ⟨h1,h2,h3,h4,h5,h6,h7⟩=>adU sq sp n s v h1 h2 h3 h4 h5 h6 h7⟩
instance acP(e:Ent)(a b:P2):DenI Tryz.prog 94 [.agg (bZ e),.c (.sl 8 ([cellsOf (.agg (bn a))]++[cellsOf (.agg (bn b))]))] (e.pts.length≤1000000∧2=(aP e).length) (.agg (bZ (gY e [a,b]))):=⟨λhp=>(inferInstance:DenI Tryz.prog 94 [.agg (bZ e),.c (.sl 8 ([a,b].map bn))] (e.pts.length≤1000000∧[a,b].length=(aP e).length) (.agg (bZ (gY e [a,b])))).den hp⟩
theorem fE{l:List Ent}{e:Ent}{x:Nat}(h:l.length=x):(l++[e]).zipIdx=l.zipIdx++[(e,x)]:=by subst h;simp [List.zipIdx_append]
set_option maxHeartbeats 16000000 in
theorem aaT(tol:Rat)(es:List Ent)(sL:Nat)(ls:List (List Cell))(ht:rz tol≤12)(hle:es.length≤12)(hes:∀e∈es,(∀p∈e.pts,dn p)∧e.layer.size≤1000∧e.pts.length≤3):
 Den Tryz.prog 50 [.agg [.sl sL ls,.sl 7 (es.map bZ)],R tol] (.tup [.c (.sl 8 ((dA (tol*tol) 0 [] es).es.zipIdx.map kH)),.own 47 19 ((dA (tol*tol) 0 [] es).cs.map vZ)]):=by
 have i_t:RzB tol 12:=⟨ht⟩
 have hsq:rz (tol*tol)≤1000:=uN (by omega);have hj:=Ie (q:=dn) (sq:=tol*tol) (es:=es) (λe he=>(hes e he).1);refine Den.of ⟨by kernel_rfl,λw X vs ho hX hl hR=>?_⟩ rfl
 haveI:WOk Tryz.prog w:=⟨ho⟩
 refine enter Tryz.func50 rfl rfl (by rw [hl];rfl) λa hF=>?_
 have hc:=uD (N:=76) hX hl hR hF;refine aC (jD (τ:=Qj) uz fF _ (QA:=λz e b=>z=.normal∧SubE [(2,.ptr 2 0),(3,.ptr 3 0),(4,.c (.v (.slice none 0 0))),(5,.c (.v (.slice none 0 0)))] e∧SubB [(2,.var [.sl sL ls,.sl 7 (es.map bZ)]),(3,.var (oZ tol))] b) (by kernel_rfl) ?_ hc ?_)
 case refine_1 =>
  exact ⟨rfl,⟨rfl,rfl,rfl,rfl,trivial⟩,⟨rfl,rfl,trivial⟩⟩
 clear hc;rintro x e b a w1 ⟨rfl,he,hb⟩ hc;replace hc:=hc.sub he hb;clear he hb;refine cZ ?_;obtain ⟨S,M,hs⟩:=hc;refine aC (aF ?_);refine wp1 rfl JO ?_;have hB1:Below w1.heap.size w1 (w1.alloc (.map #[] 0)):=Jd w1 _;have hs2:=(hs.below hB1).putV (t:=17) (u:=.map (some w1.heap.size)) (v:=.any) ⟨by decide,rfl⟩ .any;have hm2:(w1.alloc (.map #[] 0)).heap[w1.heap.size]?=some (.map #[] 0):=TJ w1 _;generalize w1.alloc (.map #[] 0)=w2 at hB1 hs2 hm2 ⊢;generalize hg0:w1.heap.size=g0 at hs2 hm2 ⊢;obtain ⟨g3,T3,c3,v3,hh3,hr3⟩:=hs2.var (t:=3) (i:=3) rfl rfl;have hl3:c3.size=4:=by have:=hr3.len;simpa using this
 have hrow:isRow Tryz.prog 30 4=true:=by kernel_rfl
 have hFm:Frm 76 _ [(3,.pointer (some ⟨g3,0,none⟩)),(17,.map (some g0))]:=(hs2.frm.cons (dG _ hs.sz (by decide))).cons v3;refine wp1 rfl (rX hrow (hFm.ev rfl) hh3 (by simp [hl3])) ?_;have hs3:=hs2.putV (t:=18) (u:=.agg c3) (v:=.any) ⟨by decide,rfl⟩ .any;replace hFm:=hFm.put (d:=18) (by decide) (.agg c3);refine wp1 rfl (rX hrow (hFm.ev rfl) hh3 (by simp [hl3])) ?_;have hs4:=hs3.putV (t:=19) (u:=.agg c3) (v:=.any) ⟨by decide,rfl⟩ .any;replace hFm:=hFm.put (d:=19) (by decide) (.agg c3)
 have hd3:RepD w2 (bl S++X) (.agg c3) (R tol):=by
  obtain ⟨c3⟩:=c3;exact .agg hr3
 have hden:=((inferInstance:DenI Tryz.prog 91 [R tol,R tol] _ (R (tol*tol))).den (by exact ⟨Nat.le_trans ht (by decide),Nat.le_trans ht (by decide)⟩)).old rfl;have hok2:Wld.ok Tryz.prog w2:=Wld.keep (Wld.keep ho hs.ms.st.below) hB1
 have hcall:=hden.2 w2 (bl S++X) [.agg c3,.agg c3] hok2 hs4.bnd rfl (λi u v hu hv=>by
  match i,hu,hv with
  |0,hu,hv=>cases hu;cases hv;exact hd3
  |1,hu,hv=>cases hu;cases hv;exact hd3)
 refine afM rfl (Ns (by kernel_rfl) (afV (hFm.ev rfl) (hFm.ev rfl)) rfl) hcall ?_;rintro u5 w3 ⟨hR5,hB3⟩;obtain ⟨us5,rfl,hr5⟩:=hR5.agg;have hl5:us5.length=4:=by have:=hr5.len;simpa using this
 have hs5:=(hs4.below hB3).putV (t:=20) (u:=.agg us5.toArray) (v:=.any) ⟨by decide,rfl⟩ .any;replace hFm:=hFm.put (d:=20) (by decide) (.agg us5.toArray);have hm3:w3.heap[g0]?=some (.map #[] 0):=(hB3.block _ (lt_of_heap hm2)).trans hm2;refine wp1 rfl (LQ (hFm.ev rfl) rfl (hFm.ev rfl) (G7 (bD lq (t:=133) rfl) rfl hl5)) ?_;have hs6:=hs5.putV (t:=21) (u:=.agg (#[.map (some g0)]++us5.toArray)) (v:=.any) ⟨by decide,rfl⟩ .any;replace hFm:=hFm.put (d:=21) (by decide) (.agg (#[.map (some g0)]++us5.toArray));refine wp1 rfl (J8 (hFm.ev rfl)) ?_;have hc:=Sta.ghost0 (i:=22) (T:=133) (us:=.map (some g0) :: us5) (G:=Gi Tryz.prog 9 45 8 (GV (tol*tol) [] 0)) (g0:=g0) hs hs6 (by omega) hm3 rfl rfl rfl ⟨by decide,rfl⟩ (acL hr5);rw [show (Value.map (some g0) :: us5).toArray=(Value.agg (#[.map (some g0)]++us5.toArray)).cells by simp [Value.cells]] at hc;refine zA uz (k:=λe b=>SubE [(6,.ptr 22 0),(2,.ptr 2 0)] e∧SubB [(22,.gh (Gi Tryz.prog 9 45 8 (GV (tol*tol) [] 0))),(2,.var [.sl sL ls,.sl 7 (es.map bZ)])] b) ?_ (by kernel_rfl) ?_ hc
 case refine_2 =>
  exact ⟨⟨rfl,rfl,trivial⟩,⟨rfl,rfl,trivial⟩⟩
 clear hc hFm hs6 hm3 hs5 hl5 hR5 hr5 hB3 hcall hok2 hden hd3 hs4 hs3 hrow hl3 hr3 hh3 v3 hm2 hs2 hg0 hB1 hs hF hR hl hX;rintro e b a w4 ⟨he,hb⟩ hc;replace hc:=hc.sub he hb;clear he hb;refine cZ ?_;refine jD (τ:=Qj) uz fF _ (QA:=Ui Qj _ [none,some (47,19)] (.tup [.c (.sl 8 ((dA (tol*tol) 0 [] es).es.zipIdx.map kH)),.own 47 19 ((dA (tol*tol) 0 [] es).cs.map vZ)])) (by kernel_rfl) ?_ hc (λx e b a w' hx hc'=>FH uz hx hc');clear hc ho
 (conv=>whnf);refine Sw.Loop.ghost 7 100 86 8 ?_ rfl rfl rfl (by decide)
 refine Sw.Loop.ghost 8 101 47 19 ?_ rfl rfl rfl (by decide);refine Sw.Loop.inv (α:=Nat) (λx=>[(6,.ptr 22 0),(24,.c (.sl 7 (es.map bZ))),(25,.int .i64 (es.length:Nat)),(26,.int .i64 (x:Nat)),(7,.gs 100 ((jA (tol*tol) es x).es.zipIdx.map kH).length),(8,.gs 101 ((jA (tol*tol) es x).cs.map vZ).length)]) (λx=>[(22,.gh (Gi Tryz.prog 9 45 8 (GV (tol*tol) (jA (tol*tol) es x).sp (nE es x)))),(100,.grow 86 8 ((jA (tol*tol) es x).es.zipIdx.map kH)),(101,.grow 47 19 ((jA (tol*tol) es x).cs.map vZ))]) (λx=>x≤es.length) (λx=>es.length-x) 0 ?_ ?_ ?_ (λx hx=>?_)
 ·exact ⟨rfl,rfl,by simp only [List.length_map];rfl,rfl,rfl,rfl,trivial⟩
 ·exact ⟨rfl,rfl,rfl,trivial⟩
 ·exact Nat.zero_le _
 obtain ⟨j1,j2,j3,j4,j5⟩:=hj x hx;obtain ⟨g1,g2,g3'⟩:=Y0 hes x;have hn2:=Nq es x;rcases oQ (es.getD x E0) with hE|⟨a,b,hE⟩
 ·haveI ie:DenI Tryz.prog 30 [.agg (bZ (es.getD (Int.toNat ((x:Nat):Int)) E0))] ((es.getD x E0).pts.length≤1000000) (.tup [.c (.sl 8 []),.bool false]):=⟨λhp=>by have:=(mX (es.getD x E0)).den hp;rw [hE] at this;simpa using this⟩
  all_goals (repeat' ((try (conv=>whnf));first
   |refine ak ?_ ?_
   |(with_reducible refine au (λ_=>?_) (λ_=>?_))
   |refine aU ?_ ?_
   |refine aN E0 ?_ ?_
   |refine Ends.mk ?_))
  all_goals (try refine Pr.mk ?_)
  all_goals first
   |((conv=>whnf);refine Sw.Loop.unroll ?_)
   |skip
  all_goals (repeat' ((try rw [Na]);(try rw [Hr]);(try (conv=>whnf));first
   |refine ak ?_ ?_
   |refine Bv (by simp only [List.length_cons,List.length_nil];decide) ?_
   |refine aU ?_ ?_))
  all_goals (try refine Pr.mk ?_)
  all_goals (try simp only [List.length_map,Int.toNat_natCast] at *)
  all_goals first
   |((with_reducible show (_:Nat)=_);rfl)
   |omega
   |((with_reducible show (_:Nat)≤_);simp only [List.length_append,List.length_map,List.length_zipIdx,List.length_cons,List.length_nil];omega)
   |((with_reducible show aB _=_);have hxx:x=es.length:=(by omega);subst hxx;rw [Bl];rfl)
   |(obtain ⟨hA,hN⟩:=acr (tol*tol) es (x:=x) (by omega) hE;(conv=>whnf);exact ⟨x+1,⟨⟨rfl,rfl,rfl,aX (by omega),(by (simp only [hA,hN,fE j5,List.map_append,List.map_cons,List.map_nil,List.append_nil,List.length_append,List.length_map,List.length_cons,List.length_nil]);(first|done|rfl)),(by (simp only [hA,hN,fE j5,List.map_append,List.map_cons,List.map_nil,List.append_nil,List.length_append,List.length_map,List.length_cons,List.length_nil]);(first|done|rfl)),trivial⟩,⟨(by (simp only [hA,hN,fE j5,List.map_append,List.map_cons,List.map_nil,List.append_nil]);(first|done|rfl)),(by (simp only [hA,hN,fE j5,List.map_append,List.map_cons,List.map_nil,List.append_nil]);(first|done|rfl)),(by (simp only [hA,hN,fE j5,List.map_append,List.map_cons,List.map_nil,List.append_nil]);(first|done|rfl)),trivial⟩,by omega,(by show es.length-(x+1)<es.length-x;omega)⟩⟩)
 ·haveI ie:DenI Tryz.prog 30 [.agg (bZ (es.getD (Int.toNat ((x:Nat):Int)) E0))] ((es.getD x E0).pts.length≤1000000) (.tup [.c (.sl 8 [bn a,bn b]),.bool true]):=⟨λhp=>by have:=(mX (es.getD x E0)).den hp;rw [hE] at this;simpa using this⟩
  have ha:dn a:=g1 a (fU (by rw [hE];simp));have hb:dn b:=g1 b (fU (by rw [hE];simp));have f1:=xU (q:=dn) (sq:=tol*tol) (s:=(es.getD x E0).layer) j1 ha;have f2:=xU (q:=dn) (sq:=tol*tol) (s:=(es.getD x E0).layer) f1.1 hb
  all_goals (repeat' ((try (conv=>whnf));first
   |refine ak ?_ ?_
   |(with_reducible refine au (λ_=>?_) (λ_=>?_))
   |refine aU ?_ ?_
   |refine aN E0 ?_ ?_
   |refine Ends.mk ?_))
  all_goals (try refine Pr.mk ?_)
  all_goals first
   |((conv=>whnf);refine Sw.Loop.unroll ?_)
   |skip
  all_goals (repeat' ((try rw [Na]);(try rw [Hr]);(try (conv=>whnf));first
   |refine ak ?_ ?_
   |(with_reducible refine au (λ_=>?_) (λ_=>?_))
   |refine OnB.mk (λ_=>?_) (λ_=>?_)
   |refine aU ?_ ?_
   |(with_reducible refine bF ?_)))
  all_goals (try refine Pr.mk ?_)
  all_goals first
   |((conv=>whnf);refine Sw.Loop.unroll ?_)
   |skip
  all_goals (repeat' ((try rw [Na]);(try rw [Hr]);(try (conv=>whnf));first
   |refine ak ?_ ?_
   |(with_reducible refine au (λ_=>?_) (λ_=>?_))
   |refine OnB.mk (λ_=>?_) (λ_=>?_)
   |refine aU ?_ ?_
   |(with_reducible refine bM ?_)))
  all_goals (try refine Pr.mk ?_)
  all_goals first
   |((conv=>whnf);refine Sw.Loop.unroll ?_)
   |skip
  all_goals (repeat' ((try rw [Na]);(try rw [Hr]);(try (conv=>whnf));first
   |refine ak ?_ ?_
   |(with_reducible refine au (λ_=>?_) (λ_=>?_))
   |refine aU ?_ ?_))
  all_goals (try refine Pr.mk ?_)
  all_goals (try simp only [List.length_map,Int.toNat_natCast] at *)
  all_goals first
   |((with_reducible show (_:Nat)=_);rfl)
   |omega
   |((with_reducible show (_:Nat)≤_);simp only [List.length_append,List.length_map,List.length_zipIdx,List.length_cons,List.length_nil];omega)
   |((with_reducible show aB _=_);have hxx:x=es.length:=(by omega);subst hxx;rw [Bl];rfl)
   |((with_reducible show _∧_);first|exact ⟨g2,ha.1,ha.2,hsq,by omega,spq j1,by have:=yX (jA (tol*tol) es x).sp (es.getD x E0).layer;omega⟩|exact ⟨g2,hb.1,hb.2,hsq,by omega,spq f1.1,by have:=yX (dw (tol*tol) (jA (tol*tol) es x).sp (es.getD x E0).layer a).1 (es.getD x E0).layer;have:=f1.2.2;omega⟩|exact ⟨Nat.le_trans ha.1 (by decide),Nat.le_trans ha.2 (by decide),Nat.le_trans f1.2.1.1 (by decide),Nat.le_trans f1.2.1.2 (by decide)⟩|exact ⟨Nat.le_trans hb.1 (by decide),Nat.le_trans hb.2 (by decide),Nat.le_trans f2.2.1.1 (by decide),Nat.le_trans f2.2.1.2 (by decide)⟩|exact ⟨by omega,by rw [hE];rfl⟩)
   |(exfalso;rename_i q;simp at q;done)
   |(obtain ⟨hA,hN⟩:=acf (tol*tol) es (x:=x) (by omega) hE;first|(have q1:=Wp (i:=x) (k:=0) (a:=a) (w:=(dw (tol*tol) (jA (tol*tol) es x).sp (es.getD x E0).layer a).2) (by assumption);have q2:=Wp (i:=x) (k:=1) (a:=b) (w:=(dw (tol*tol) (dw (tol*tol) (jA (tol*tol) es x).sp (es.getD x E0).layer a).1 (es.getD x E0).layer b).2) (by assumption);(conv=>whnf);exact ⟨x+1,⟨⟨rfl,rfl,rfl,aX (by omega),(by (simp only [hA,hN,q1,q2,fE j5,List.nil_append,List.cons_append,List.append_assoc,List.map_append,List.map_cons,List.map_nil,List.append_nil,List.length_append,List.length_map,List.length_cons,List.length_nil]);(first|done|rfl)),(by (simp only [hA,hN,q1,q2,fE j5,List.nil_append,List.cons_append,List.append_assoc,List.map_append,List.map_cons,List.map_nil,List.append_nil,List.length_append,List.length_map,List.length_cons,List.length_nil]);(first|done|rfl)),trivial⟩,⟨(by (simp only [hA,hN,q1,q2,fE j5,List.nil_append,List.cons_append,List.append_assoc,List.map_append,List.map_cons,List.map_nil,List.append_nil]);(first|done|rfl)),(by (simp only [hA,hN,q1,q2,fE j5,List.nil_append,List.cons_append,List.append_assoc,List.map_append,List.map_cons,List.map_nil,List.append_nil]);(first|done|rfl)),(by (simp only [hA,hN,q1,q2,fE j5,List.nil_append,List.cons_append,List.append_assoc,List.map_append,List.map_cons,List.map_nil,List.append_nil]);(first|done|rfl)),trivial⟩,by omega,(by show es.length-(x+1)<es.length-x;omega)⟩⟩)|(have q1:=Wp (i:=x) (k:=0) (a:=a) (w:=(dw (tol*tol) (jA (tol*tol) es x).sp (es.getD x E0).layer a).2) (by assumption);have q2:=XT (i:=x) (k:=1) (a:=b) (w:=(dw (tol*tol) (dw (tol*tol) (jA (tol*tol) es x).sp (es.getD x E0).layer a).1 (es.getD x E0).layer b).2) (by assumption);(conv=>whnf);exact ⟨x+1,⟨⟨rfl,rfl,rfl,aX (by omega),(by (simp only [hA,hN,q1,q2,fE j5,List.nil_append,List.cons_append,List.append_assoc,List.map_append,List.map_cons,List.map_nil,List.append_nil,List.length_append,List.length_map,List.length_cons,List.length_nil]);(first|done|rfl)),(by (simp only [hA,hN,q1,q2,fE j5,List.nil_append,List.cons_append,List.append_assoc,List.map_append,List.map_cons,List.map_nil,List.append_nil,List.length_append,List.length_map,List.length_cons,List.length_nil]);(first|done|rfl)),trivial⟩,⟨(by (simp only [hA,hN,q1,q2,fE j5,List.nil_append,List.cons_append,List.append_assoc,List.map_append,List.map_cons,List.map_nil,List.append_nil]);(first|done|rfl)),(by (simp only [hA,hN,q1,q2,fE j5,List.nil_append,List.cons_append,List.append_assoc,List.map_append,List.map_cons,List.map_nil,List.append_nil]);(first|done|rfl)),(by (simp only [hA,hN,q1,q2,fE j5,List.nil_append,List.cons_append,List.append_assoc,List.map_append,List.map_cons,List.map_nil,List.append_nil]);(first|done|rfl)),trivial⟩,by omega,(by show es.length-(x+1)<es.length-x;omega)⟩⟩)|(have q1:=XT (i:=x) (k:=0) (a:=a) (w:=(dw (tol*tol) (jA (tol*tol) es x).sp (es.getD x E0).layer a).2) (by assumption);have q2:=Wp (i:=x) (k:=1) (a:=b) (w:=(dw (tol*tol) (dw (tol*tol) (jA (tol*tol) es x).sp (es.getD x E0).layer a).1 (es.getD x E0).layer b).2) (by assumption);(conv=>whnf);exact ⟨x+1,⟨⟨rfl,rfl,rfl,aX (by omega),(by (simp only [hA,hN,q1,q2,fE j5,List.nil_append,List.cons_append,List.append_assoc,List.map_append,List.map_cons,List.map_nil,List.append_nil,List.length_append,List.length_map,List.length_cons,List.length_nil]);(first|done|rfl)),(by (simp only [hA,hN,q1,q2,fE j5,List.nil_append,List.cons_append,List.append_assoc,List.map_append,List.map_cons,List.map_nil,List.append_nil,List.length_append,List.length_map,List.length_cons,List.length_nil]);(first|done|rfl)),trivial⟩,⟨(by (simp only [hA,hN,q1,q2,fE j5,List.nil_append,List.cons_append,List.append_assoc,List.map_append,List.map_cons,List.map_nil,List.append_nil]);(first|done|rfl)),(by (simp only [hA,hN,q1,q2,fE j5,List.nil_append,List.cons_append,List.append_assoc,List.map_append,List.map_cons,List.map_nil,List.append_nil]);(first|done|rfl)),(by (simp only [hA,hN,q1,q2,fE j5,List.nil_append,List.cons_append,List.append_assoc,List.map_append,List.map_cons,List.map_nil,List.append_nil]);(first|done|rfl)),trivial⟩,by omega,(by show es.length-(x+1)<es.length-x;omega)⟩⟩)|(have q1:=XT (i:=x) (k:=0) (a:=a) (w:=(dw (tol*tol) (jA (tol*tol) es x).sp (es.getD x E0).layer a).2) (by assumption);have q2:=XT (i:=x) (k:=1) (a:=b) (w:=(dw (tol*tol) (dw (tol*tol) (jA (tol*tol) es x).sp (es.getD x E0).layer a).1 (es.getD x E0).layer b).2) (by assumption);(conv=>whnf);exact ⟨x+1,⟨⟨rfl,rfl,rfl,aX (by omega),(by (simp only [hA,hN,q1,q2,fE j5,List.nil_append,List.cons_append,List.append_assoc,List.map_append,List.map_cons,List.map_nil,List.append_nil,List.length_append,List.length_map,List.length_cons,List.length_nil]);(first|done|rfl)),(by (simp only [hA,hN,q1,q2,fE j5,List.nil_append,List.cons_append,List.append_assoc,List.map_append,List.map_cons,List.map_nil,List.append_nil,List.length_append,List.length_map,List.length_cons,List.length_nil]);(first|done|rfl)),trivial⟩,⟨(by (simp only [hA,hN,q1,q2,fE j5,List.nil_append,List.cons_append,List.append_assoc,List.map_append,List.map_cons,List.map_nil,List.append_nil]);(first|done|rfl)),(by (simp only [hA,hN,q1,q2,fE j5,List.nil_append,List.cons_append,List.append_assoc,List.map_append,List.map_cons,List.map_nil,List.append_nil]);(first|done|rfl)),(by (simp only [hA,hN,q1,q2,fE j5,List.nil_append,List.cons_append,List.append_assoc,List.map_append,List.map_cons,List.map_nil,List.append_nil]);(first|done|rfl)),trivial⟩,by omega,(by show es.length-(x+1)<es.length-x;omega)⟩⟩))
instance aeQ(tol:Rat)(es:List Ent)(sL:Nat)(ls:List (List Cell)):DenI Tryz.prog 50 [.agg [.sl sL ls,.sl 7 (es.map bZ)],R tol] (rz tol≤12∧es.length≤12∧∀e∈es,XY e) (.tup [.c (.sl 8 ((dA (tol*tol) 0 [] es).es.zipIdx.map kH)),.own 47 19 ((dA (tol*tol) 0 [] es).cs.map vZ)]):=⟨λ⟨h1,h2,h3⟩=>aaT tol es sL ls h1 h2 h3⟩
def agA:List Cell:=[.v (.string ⟨#[]⟩),.v (.int .i64 0),.v (.string ⟨#[108,105,110,101]⟩),.v (.int .i64 2),.v (.string ⟨#[97,114,99]⟩),.v (.int .i64 3),.v (.string ⟨#[99,105,114,99,108,101]⟩),.v (.int .i64 1)]
def acT:List Value:=[.string ⟨#[]⟩,.int .i64 0,.string ⟨#[108,105,110,101]⟩,.int .i64 2,.string ⟨#[97,114,99]⟩,.int .i64 3,.string ⟨#[99,105,114,99,108,101]⟩,.int .i64 1]
def UN(w:World):Prop:=∀(j:Nat) u,acT[j]?=some u→w.cell? ((⟨0,0,none⟩:Addr).add j)=some u
theorem S9{w w':World}(h:UN w)(hb:Below w.heap.size w w'):UN w':=λj u hu=>by
 have h1:=h j u hu;have hb0:((⟨0,0,none⟩:Addr).add j).block=0:=by unfold Addr.add;split<;>rfl
 have hg:((⟨0,0,none⟩:Addr).add j).block<w.heap.size:=by
  rcases Nat.lt_or_ge ((⟨0,0,none⟩:Addr).add j).block w.heap.size with h'|h'
  ·exact h'
  ·unfold World.cell? at h1;rw [Array.getElem?_eq_none h'] at h1;cases h1
 exact (hb.cell hg).trans h1
instance(priority:=3000) Qp:Wld Tryz.prog:=⟨λw=>Lib.TabIs Tryz.prog w "internal/strconv.uint64pow10" .u64 Lib.pow10Tab∧UN w,λh hb=>⟨GZ h.1 hb,S9 h.2 hb⟩,[(0,acT)],λh g us hm=>by
 simp only [List.mem_singleton,Prod.mk.injEq] at hm;obtain ⟨rfl,rfl⟩:=hm
 exact h.2⟩
instance afb{f:FuncId}{xs:List AV}{pre:Prop}{r:AV}[h : @DenI Tryz.prog BD f xs pre r]:@DenI Tryz.prog Qp f xs pre r:=⟨λhp=>pJ BD Qp (λ_ h=>h.1) (h.den hp)⟩
instance afa{f:FuncId}{xs:List AV}{pre c:Prop}{r s:AV}[h : @DenC Tryz.prog BD f xs pre c r s]:@DenC Tryz.prog Qp f xs pre c r s:=⟨λhp=>⟨λhc=>pJ BD Qp (λ_ h=>h.1) ((h.den hp).1 hc),λhc=>pJ BD Qp (λ_ h=>h.1) ((h.den hp).2 hc)⟩⟩
def acO:Tab:=(1000000000,.glob 0 agA) :: tab
theorem aeT : @dR Tryz.prog Qp acO=true:=by kernel_rfl
theorem aiE {f:FuncId} {fn:Func} {c:Code} {xs:List AV} {r:AV} (hf:Tryz.prog.funcs[f]?=some fn) (hb:fn.body=some c) (h:C9 (Den Tryz.prog) acO c (WX acO fn r) (Iz 0 xs) []) (a:dJ Tryz.prog f=true:=by kernel_rfl) (t:iY fn.ntmps c=true:=by kernel_rfl) (l:Nat.ble xs.length fn.ntmps=true:=by kernel_rfl) (n:mV xs=true:=by rfl):Den Tryz.prog f xs r:=qA aeT fF hf hb a t l h n
end Go.Proofs.YtmniihkenijjpaaGreatDoor
