/-
  Rules of the abstract run, plain laws, and what functions answer, for the law RepairReport.
  Conditions: none.
-/
import Derived.Test.YtmniihkenijjpaaGreatDoorU15
import Derived.Shelf.LaysM
import Derived.Shelf.Strconv.Itoa1
import Derived.Shelf.Strconv.Itoa2
import Derived.Lib.Walk
import Derived.Lib.ItoaMem
import Derived.Lib.ItoaLen
import Derived.Lib.AppendIntMem
import Derived.WalkKit
import Derived.BigCall
import Derived.BigGuard
import Derived.Shelf.SlicesE.Clone
set_option linter.all false
namespace Go.Proofs.YtmniihkenijjpaaGreatDoor
open Go Go.RowKit Go.Sw
set_option maxRecDepth 100000
set_option maxHeartbeats 16000000
set_option synthInstance.maxSize 4000
set_option synthInstance.maxHeartbeats 400000
def uO:Tab:=(133,.row 5 [(0,1,false),(1,4,true)] [.v (.map none),.v (.bool false),.sl 1 [],.v (.bool false),.sl 1 []])::tabs
theorem fU:tabOk Tryz.prog uO=true:=ζ
theorem mg{a b c d:Rat}(ha:rz a<=12)(hb:rz b<=12)(hc:rz c<=12)(hd:rz d<=12):rz (farR (a,b) (c,d))<=10000000:=by
 have i1:RzB a 12:=⟨ha⟩
 have i2:RzB b 12:=⟨hb⟩
 have i3:RzB c 12:=⟨hc⟩
 have i4:RzB d 12:=⟨hd⟩
 show rz ((a-c)*(a-c)+(b-d)*(b-d))<=10000000;exact dX ω
theorem aaB(sq:Rat)(sp:Spots)(n:Nat)(s:ByteArray)(v:P2)(hs:s.size<=1000)(ha:rz v.1<=12)(hb0:rz v.2<=12)(hq:rz sq<=1000)(hn:n<=1000000)(hsp:∀p∈spotsAt sp s,rz p.1<=12/\rz p.2<=12)(hll:(spotsAt sp s).length<=1000000):
 DenG Tryz.prog 92 (jgho Tryz.prog 9 45 8 (jst sq sp n)) [.c (.v (.string s)),.agg (vecC v)] (jgho Tryz.prog 9 45 8 (jst sq (joinP sq sp s v).1 (n+1))) (.agg (vecC (joinP sq sp s v).2)):=by
 refine⟨ζ, ?_⟩;intro w X g T us vs more mo hW hX hg hmore hnd hgc hmap hrep hvl hr;obtain⟨g0,es,ck⟩:=mo;obtain⟨us',rfl,hsq,hF,hes,val,og,hval,hsl,hinj⟩:=hrep;simp only at hmap hF hes hval
 match vs,hvl with
 |[u1,u2],_ =>
 have h1:=hr 0 u1 _ rfl rfl;have h2:=hr 1 u2 _ rfl rfl;obtain rfl:=h1.v
 obtain⟨us2,rfl,hv2⟩:∃us2:List Value,u2=.agg us2.toArray/\RepL w X us2 (vecC v):=by
  cases h2 with
  |agg h=>exact⟨_,rfl,h⟩
 have hl2:us2.length=8:=hv2.len
 haveI:WOk Tryz.prog w:=⟨hW⟩
 obtain⟨X1,hX1⟩:∃X1:List Nat,∀x∈X1,x∈X/\x≠g/\x ∉ bl more:=⟨X.filter λx=>!(decide (x=g)) && !(decide (x∈bl more)),λx hx=>by
  obtain⟨q1,q2⟩:=yg.1 hx;simp only[bY,uX,decide_eq_false_iff_not]at q2
  exact⟨q1,q2.1,q2.2⟩⟩
 have hE1:Ext w X w X1:=Ext.drop λx hx=>(hX1 x hx).1
 have hptr:RepD w X1 (.pointer (some ⟨g,0,none⟩)) (.c (.p (.v (.map (some g0))::ratC sq))):=by
  have hcl:=Cl.of_block (X:=X1) hgc (λhx=>(hX1 g hx).2.1 rfl) (Value.map (some g0)::us').length;rw[JX,xY]at hcl;exact .c (p_rep hcl (.cons (.v _ rfl) (hsq.ext hE1)))
 generalize hL:spotsAt sp s=L at hsp hll;have hfs:(jst sq sp n).f s=L.map vecC:=by show(spotsAt sp s).map vecC=_;rw[hL]
 have hslot:=hsl s;rw[hfs]at hslot;have hlay:RepD w X1 (val s) (.c (.sl 8 (L.map vecC))):=.c (hslot.data (λq hq=>(hmore q hq).2.2) (λx hx=>⟨(hX1 x hx).1,(hX1 x hx).2.2⟩));have hg0:g0<w.heap.size:=lt_of_heap hmap;have hgl:g<w.heap.size:=lt_of_heap hgc;have i1:RzB v.1 12:=⟨ha⟩
 have i2:RzB v.2 12:=⟨hb0⟩
 have hgd:∀i,rz (L.getD i P0).1<=12/\rz (L.getD i P0).2<=12:=λi=>by
  by_cases hi:i<L.length
  .have:L.getD i P0=L[i]:=by simp[iI,hi]
   rw[this];exact hsp _ (wW hi)
  .have:L.getD i P0=P0:=by simp[iI,Nat.le_of_not_lt hi]
   rw[this];decide +kernel
 have i3:RzB sq 1000:=⟨hq⟩
 refine enter (vs:=[_,_,_]) Tryz.func92 rfl rfl rfl λa hFr=>?_
 have hc:=args_conc (N:=68) (w:=w) (X:=X1) (xs:=[.c (.p (.v (.map (some g0))::ratC sq)),.c (.v (.string s)),.agg (vecC v)]) (vs:=[.pointer (some ⟨g,0,none⟩),.string s,.agg us2.toArray]) (a:=a) (λm hm=>hX m (hX1 m hm).1) rfl (λi u y hu hv=>by
  match i,hu,hv with
  |0,hu,hv=>cases hu;cases hv;exact hptr
  |1,hu,hv=>cases hu;cases hv;exact .c (.v _ rfl)
  |2,hu,hv=>cases hu;cases hv;exact h2.ext hE1) hFr
 have hc:=Conc.keep [(0,.pointer (some ⟨g,0,none⟩))] hc (λt u h=>by
  simp only[uy,ng]at h;obtain⟨rfl,rfl⟩:=h
  exact hFr.get 0 _ rfl)
 refine c_seq (c_reg (wp1 rfl (ex_box (hFr.get 2 _ rfl)) ?_));have hc:=hc.boxF (t:=5) (T:=45) (us:=us2) (cs:=vecC v) (hv2.ext hE1) (λg o h=>nomatch h) ⟨ψ,rfl⟩
 letI kp1:Kp:=⟨[(5,.pointer (some ⟨w.heap.size,0,none⟩)),(0,.pointer (some ⟨g,0,none⟩))],[(w.heap.size,.cells us2.toArray 45 (0,0))]⟩
 replace hc : @Conc kp1 68 w X1 _ _ _ _:=hc;refine aops_ok fU (k:=λe b=>SubE [(0,.c (.p (.v (.map (some g0))::ratC sq))),(1,.c (.v (.string s))),(5,.c (.p (vecC v))),(6,.ptr 6 0)] e/\SubB [(6,.var [.v (.bool false),.sl 1 [],.v (.bool false),.sl 1 [],.v (.bool false),.sl 1 [],.v (.bool false),.sl 1 []])] b) ?_ ζ ?_ hc
 case refine_2 =>
  exact⟨⟨rfl,rfl,rfl,rfl,trivial⟩,⟨rfl,trivial⟩⟩
 rintro e b a w1 ⟨he,hb⟩ hc;replace hc:=hc.sub he hb;refine x_tn ?_;refine c_seq (awp_ok (τ:=uO) fU aQ _ (QA:=λz e b=>z=.normal/\SubE [(0,.c (.p (.v (.map (some g0))::ratC sq))),(1,.c (.v (.string s))),(5,.c (.p (vecC v))),(6,.ptr 6 0),(7,.int .i64 (-1))] e/\SubB [(6,.var [.v (.bool false),.sl 1 [],.v (.bool false),.sl 1 [],.v (.bool false),.sl 1 [],.v (.bool false),.sl 1 []])] b) ζ ?_ hc ?_)
 case refine_1 =>
  exact⟨rfl,⟨rfl,rfl,rfl,rfl,rfl,trivial⟩,⟨rfl,trivial⟩⟩
 rintro x e b a w1 ⟨rfl,he,hb⟩ hc;replace hc:=hc.sub he hb;refine x_tn ?_;have hF0:Frm 68 a [(0,.pointer (some ⟨g,0,none⟩)),(1,.string s)]:=(hc.frm.cons (hc.get (t:=1) rfl η)).cons (hc.kp (.tail _ (.head _)));have hgw:w1.heap[g]?=some (.cells (Value.map (some g0)::us').toArray T (0,0)):=(hc.sz.2.2.block g hgl).trans hgc;refine c_seq (c_reg ?_);refine wp1 rfl (ex_move (hF0.ev rfl)) ?_;replace hF0:=hF0.put (d:=12) ψ (.pointer (some ⟨g,0,none⟩));replace hc:=hc.putA (t:=12) (u:=.pointer (some ⟨g,0,none⟩)) ⟨ψ,rfl⟩;refine wp1 rfl (ex_nilp (hF0.ev rfl)) ?_;replace hF0:=hF0.put (d:=13) ψ (.pointer (some ⟨g,0,none⟩));replace hc:=hc.putA (t:=13) (u:=.pointer (some ⟨g,0,none⟩)) ⟨ψ,rfl⟩;refine wp1 rfl (ex_field_addr (off:=0) ζ (hF0.ev rfl)) ?_;replace hF0:=hF0.put (d:=14) ψ (.pointer (some ⟨g,0,none⟩));replace hc:=hc.putA (t:=14) (u:=.pointer (some ⟨g,0,none⟩)) ⟨ψ,rfl⟩;refine wp1 rfl (eP (v:=.map (some g0)) ζ (hF0.ev rfl) hgw rfl) ?_;replace hF0:=hF0.put (d:=15) ψ (.map (some g0));replace hc:=hc.putA (t:=15) (u:=.map (some g0)) ⟨ψ,rfl⟩;refine wp1 rfl (ex_move (hF0.ev rfl)) ?_;replace hF0:=hF0.put (d:=16) ψ (.string s);replace hc:=hc.putA (t:=16) (u:=.string s) ⟨ψ,rfl⟩;refine wp1 rfl (ex_lookup (g0:=g0) (k:=.string s) (v:=val s) (hF0.ev rfl) (hF0.ev rfl) (jlook Tryz.underlying9 Tryz.underlying131 Tryz.zeroValue53 hF ((hc.sz.2.2.block g0 hg0).trans hmap) hval s (by unfold maxLen;omega))) ?_;replace hF0:=hF0.put (d:=17) ψ (val s);replace hc:=hc.putD (t:=17) (u:=val s) ⟨ψ,rfl⟩ hlay;refine wp1 rfl (ex_assign (v:=val s) (hF0.ev rfl)) ?_;replace hF0:=hF0.put (d:=8) ψ (val s);replace hc:=hc.putD (t:=8) (u:=val s) ⟨ψ,rfl⟩ hlay
 have hc:=Conc.keep [(8,val s),(5,.pointer (some ⟨w.heap.size,0,none⟩)),(0,.pointer (some ⟨g,0,none⟩))] hc (λt u h=>by
  rcases pV.1 h with h|h
  .cases h;exact hF0.get 8 _ rfl
  .exact hc.kp h)
 letI kp2:Kp:=⟨[(8,val s),(5,.pointer (some ⟨w.heap.size,0,none⟩)),(0,.pointer (some ⟨g,0,none⟩))],[(w.heap.size,.cells us2.toArray 45 (0,0))]⟩
 replace hc : @Conc kp2 68 w X1 _ _ _ _:=hc;refine(show Exit.then _ _ .normal _ _ from x_tn ?_);refine c_seq (awp_ok (τ:=uO) fU aQ _ (QA:=λz e b=>z=.normal/\SubE [(0,.c (.p (.v (.map (some g0))::ratC sq))),(1,.c (.v (.string s))),(5,.c (.p (vecC v))),(6,.ptr 6 0),(7,.int .i64 (bestI sq v L L.length)),(8,.c (.sl 8 (L.map vecC)))] e/\SubB [(6,.var [.v (.bool false),.sl 1 [],.v (.bool false),.sl 1 [],.v (.bool false),.sl 1 [],.v (.bool false),.sl 1 []])] b) ζ ?_ hc ?_)
 case refine_1 =>
  all_goals first
   |((conv=>whnf);refine Sw.Loop.inv (α:=Nat) (λx=>[(0,.c (.p (.v (.map (some g0))::ratC sq))),(1,.c (.v (.string s))),(5,.c (.p (vecC v))),(6,.ptr 6 0),(7,.int .i64 (bestI sq v L x)),(8,.c (.sl 8 (L.map vecC))),(18,.c (.sl 8 (L.map vecC))),(19,.int .i64 (L.length:Nat)),(20,.int .i64 x)]) (λx=>[(6,.var [.v (.bool false),.sl 1 [],.v (.bool false),.sl 1 [],.v (.bool false),.sl 1 [],.v (.bool false),.sl 1 []])]) (λx=>x<=L.length) (λx=>L.length-x) 0 ?_ ?_ ?_ (λx hx=>?_))
  all_goals(repeat'((try(conv=>whnf));first
   |refine zaa ?_ ?_|(with_reducible first|apply zab|apply zac|refine zad (λ_=>?_) (λ_=>?_))|refine zas ζ ?_|refine zan P0 ?_ ?_))
  all_goals(try apply zar)
  all_goals first|(show SubE _ _;repeat'(first|exact trivial|refine And.intro ?_ ?_))|(show SubB _ _;repeat'(first|exact trivial|refine And.intro ?_ ?_))|skip
  all_goals(try rfl)
  all_goals(try(simp only[aG];rfl))
  all_goals(try(have hbo:=bestI_ok sq v L x ω))
  all_goals(try simp only[aG,dh]at *)
  all_goals(try simp only[aW]at *)
  all_goals first
   |exact jd _|omega|exact⟨aP ha ψ,aP hb0 ψ,aP (hgd _).1 ψ,aP (hgd _).2 ψ⟩|exact⟨mg ha hb0 (hgd _).1 (hgd _).2,aP hq ψ⟩|exact⟨mg ha hb0 (hgd _).1 (hgd _).2,mg ha hb0 (hgd _).1 (hgd _).2⟩|((conv=>whnf);exact⟨x+1,⟨⟨rfl,rfl,rfl,rfl,(by have hb1:bestI sq v L (x+1)=(x:Int):=(by first|exact if_pos ⟨ξ,.inl ω⟩|exact if_pos ⟨ξ,.inr ξ⟩);show some (AV.int IntKind.i64 ((x:Int)))=_;rw[hb1]),rfl,rfl,rfl,aH ω,trivial⟩,⟨rfl,trivial⟩,ω,(by show L.length-(x+1)<L.length-x;omega)⟩⟩)|((conv=>whnf);exact⟨x+1,⟨⟨rfl,rfl,rfl,rfl,(by have hb1:bestI sq v L (x+1)=bestI sq v L x:=(by first|exact if_neg (λh=>absurd h.1 ξ)|exact if_neg (λh=>h.2.elim (λh=>by omega) (λh=>absurd h ξ)));show some (AV.int IntKind.i64 (bestI sq v L x))=_;rw[hb1]),rfl,rfl,rfl,aH ω,trivial⟩,⟨rfl,trivial⟩,ω,(by show L.length-(x+1)<L.length-x;omega)⟩⟩)|((conv=>whnf);rename_i hh;have hxx:x=L.length:=ω;subst hxx;exact⟨by first|trivial|rfl,⟨rfl,rfl,rfl,rfl,rfl,rfl,trivial⟩,⟨rfl,trivial⟩⟩)
 rintro x e b a w1 ⟨rfl,he,hb⟩ hc;replace hc:=hc.sub he hb;refine x_tn ?_;refine c_seq ?_;refine c_seq (awp_ok (τ:=uO) fU aQ _ (QA:=λz e b=>z=.normal/\SubE [(0,.c (.p (.v (.map (some g0))::ratC sq))),(1,.c (.v (.string s))),(5,.c (.p (vecC v))),(6,.ptr 6 0),(7,.int .i64 (bestI sq v L L.length)),(8,.c (.sl 8 (L.map vecC))),(53,.bool (decide (bestI sq v L L.length>=0)))] e/\SubB [(6,.var [.v (.bool false),.sl 1 [],.v (.bool false),.sl 1 [],.v (.bool false),.sl 1 [],.v (.bool false),.sl 1 []])] b) ζ ?_ hc ?_)
 case refine_1 =>
  exact⟨rfl,⟨rfl,rfl,rfl,rfl,rfl,rfl,rfl,trivial⟩,⟨rfl,trivial⟩⟩
 rintro x e b a w1 ⟨rfl,he,hb⟩ hc;replace hc:=hc.sub he hb;refine x_tn ?_;obtain⟨b1,b2,b3⟩:=bestI_ok sq v L L.length (gW _);have hk8:a.tmps.getD 8 undef=val s:=hc.kp (.head _);obtain⟨g6,T6,cs6,v6,hg6,hh6,hr6⟩:=hc.var (t:=6) (i:=6) rfl rfl;have hB:=hc.sz.2.2;have hl6:cs6.size=8:=by have:=hr6.len;simpa using this
 have hFm:Frm 68 a [(0,.pointer (some ⟨g,0,none⟩)),(1,.string s),(5,.pointer (some ⟨w.heap.size,0,none⟩)),(6,.pointer (some ⟨g6,0,none⟩)),(8,val s),(7,.int .i64 (bestI sq v L L.length))] :=
  (((((hc.frm.cons (hc.get (t:=7) rfl η)).cons hk8).cons v6).cons (hc.kp (.tail _ (.head _)))).cons (hc.get (t:=1) rfl η)).cons (hc.kp (.tail _ (.tail _ (.head _))))
 have hg5:w1.heap[w.heap.size]?=some (.cells us2.toArray 45 (0,0)):=hc.kh (.head _);have hsz45:(Tryz.prog.info? 45).map (·.size)=some 8:=ζ
 have hrow:isRow Tryz.prog 45 8=true:=ζ
 obtain⟨_,hsl45,z45,hel45,_,hz45⟩:=sliceT (tab_at fU (t:=53) rfl);have hmo:∀q∈more,q.1∈X/\w.heap[q.1]?=some (.cells q.2.2 q.2.1 (0,0)):=λq hq=>⟨(hmore q hq).1,(hmore q hq).2.2⟩
 refine wp_cond_split (hc.get (t:=53) rfl η) (λhp=>?_) (λhp=>?_)
 case refine_1 =>
  have hbi:0<=bestI sq v L L.length:=of_decide_eq_true hp;obtain⟨j,hj⟩:=Int.eq_ofNat_of_zero_le hbi;have hjl:j<L.length:=ω
  obtain⟨gl,cap,uss,rest,hv,hogs,hmem,hrs,hcap,hle⟩:=hslot.inv κ;have hgl':=(hmore _ hmem).2.2;have hgl4:w1.heap[gl]?=some (.cells (uss.flatten++rest).toArray 45 (0,0)):=(hB.block gl (lt_of_heap hgl')).trans hgl';have hul:uss.length=L.length:=by rw[hrs.len];simp
  have hju:j<uss.length:=ω
  have hRj:RepL w X uss[j] (vecC (L.getD j P0)):=hrs.get j _ _ (fM hju) (by simp[iI,hjl]);have hl8:(uss[j]).length=8:=hRj.len;have hfl8:(uss.flatten).length=uss.length*8:=flatten_len hrs.sz
  have hcut:(uss.flatten++rest).toArray.extract (j*8) (j*8+8)=uss[j].toArray:=by
   apply yD;apply NR;intro i;simp only[Array.toList_extract,List.extract_eq_drop_take,JX];rw[wL]
   by_cases hi:i<8
   .rw[if_pos ω,BL,ED ω,flatten_at hrs.sz (fM hju) i hi]
   .rw[if_neg ω,List.getElem?_eq_none ω]
  have hex:j*8+8<=(uss.flatten++rest).toArray.size:=by simp only[Ip,bF];omega
  rw[hj,hv,aG]at hFm;have hst:=run_storeAt (P:=Tryz.prog) (w:=w1) (t:=45) (T:=T6) (g:=g6) (off:=0) (v:=.agg uss[j].toArray) (vs:=uss[j].toArray) (cs:=cs6) rfl (by rw[hsz45];simp[hl8]) (all_one hRj.one) hh6 (by simp[hl8,hl6]);rw[splice_all (by simp[hl8,hl6])]at hst;have hgr:=grownBy_setRow w1 g6 uss[j].toArray;have hh6':=setRow_heap w1 g6 cs6 uss[j].toArray _ _ hh6;have hB5:Below w.heap.size w (w1.setRow g6 uss[j].toArray):=⟨hgr.os.trans hB.os,hgr.tape.trans hB.tape,hgr.output.trans hB.output,aP hB.size hgr.size,λk hk=>(hgr.block k (AP hk hB.size) (λe=>by cases e;omega)).trans (hB.block k hk)⟩
  refine c_seq (c_reg (wp1 rfl (ex_move (hFm.ev rfl)) ?_));replace hFm:=hFm.put (d:=54) ψ (.slice (some ⟨gl,0,none⟩) L.length cap);refine wp1 rfl (ex_move (hFm.ev rfl)) ?_;replace hFm:=hFm.put (d:=55) ψ (.int .i64 (j:Nat));refine wp1 rfl (ex_idxq hsl45 (hFm.ev rfl) (hFm.ev rfl) hjl) ?_;replace hFm:=hFm.put (d:=56) ψ (.pointer (some ⟨gl,j*8,none⟩));refine wp1 rfl (zO hrow (hFm.ev rfl) hgl4 hex) ?_;rw[hcut];replace hFm:=hFm.put (d:=57) ψ (.agg uss[j].toArray);refine wp1s rfl (ex_store (hFm.ev rfl) (hFm.ev rfl) hst) ?_;refine(show Exit.then _ _ .normal _ _ from x_tn (c_ret (x_tr ?_)));refine fin_res rfl hFm.defers (xX hFm rfl hrow hh6' (by simp[hl8])) ⟨_,rfl, ?_⟩;obtain⟨e1,e2⟩:=jfound (sq:=sq) (sp:=sp) (s:=s) (v:=v) (n:=n+1) (by rw[hL];exact hbi);rw[e1,e2,hL,hj];exact jfin (st:=jst sq sp n) hB5 hmo hnd hmap ⟨us',rfl,hsq,hF,hes,val,og,hval,hsl,hinj⟩ (Nat.le_succ n) (.d (.agg hRj))
 case refine_2 =>
  have hbi:bestI sq v L L.length<0:=by have:=of_decide_eq_false hp;omega
  refine c_skip (x_tn ?_);obtain⟨uss,hrs,hown,hob⟩:=hslot.row (λq hq=>(hmore q hq).2.2);rw[aG]at hown
  have hogm:∀i,og s=some i->i<w.heap.size:=λi hi=>by
   have h6:=hslot;rw[hi]at h6;generalize val s=vx at h6;generalize L.map vecC=fx at h6;cases h6 with
   |some hm hr hc hx hn h0=>exact lt_of_heap (hmore _ hm).2.2
  have hF0:Frm 68 a [(0,.pointer (some ⟨g,0,none⟩)),(1,.string s),(5,.pointer (some ⟨w.heap.size,0,none⟩)),(6,.pointer (some ⟨g6,0,none⟩)),(8,val s)] :=
   ((((hc.frm.cons hk8).cons v6).cons (hc.kp (.tail _ (.head _)))).cons (hc.get (t:=1) rfl η)).cons (hc.kp (.tail _ (.tail _ (.head _))))
  have hBd:Below w.heap.size w w1.drew:=hB.drew;have hg0w:w1.drew.heap[g]?=some (.cells (Value.map (some g0)::us').toArray T (0,0)):=(hBd.block g hgl).trans hgc;have hBa:Below w.heap.size w (w1.drew.alloc (.cells us2.toArray 45)):=hBd.alloc hBd.size _;have hkeepA:∀i,i<w1.heap.size->(w1.drew.alloc (.cells us2.toArray 45)).heap[i]?=w1.heap[i]?:=λi hi=>Below.heap_alloc w1.drew _ i hi
  have hnewA:(w1.drew.alloc (.cells us2.toArray 45)).heap[w1.heap.size]?=some (.cells us2.toArray 45 (0,0)):=heap_alloc_new w1.drew _;have hszA:(w1.drew.alloc (.cells us2.toArray 45)).heap.size=w1.heap.size+1:=by simp
  obtain⟨v',w2,r1,r2,r3,r4,r5,r6⟩:=run_app (P:=Tryz.prog) (ty:=53) (w:=w1.drew.alloc (.cells us2.toArray 45)) (base:=0) ψ hsl45 hel45 hz45 (ownsRow_keep hown (λi hi=>hBa.block i hi)) (A:=some ⟨w1.heap.size,0,none⟩) (m:=1) (c:=1) (news:=us2) (by rw[hl2]) (λad had i u hu=>by
   cases had;rw[Addr.add_lit,cell_of_row _ _ _ _ _ _ hnewA]
   simpa using hu) (λh=>by cases h) hv2.one ω (jd _)
  have hE6:Ext w X w (g6::X):=(Ext.refl w X).add hg6
  obtain⟨w3,mo',more',j1,j2,j3,j4,j5,j6,j7,j8⟩:=jput (P:=Tryz.prog) (mT:=131) (kT:=9) (sT:=53) (T:=45) (s:=8) (st:=jst sq sp n) (w:=w) (X:=g6::X) (v':=v') (vs:=us2) (vC:=vecC v) (uss:=uss) Tryz.underlying9 Tryz.underlying131 ψ rfl (hsq.ext hE6) hF hes (show n<maxLen by unfold maxLen;omega) hval (λk=>(hsl k).ext hE6) hinj
   (λq hq=>⟨CO _ (hmore q hq).1,(hmore q hq).2.2⟩) hnd hmap (k:=s) (by unfold maxLen;omega) (hv2.ext hE6) hl2 (by rw[hfs];exact hrs.ext hE6) hBa (by rw[hfs,aG];exact r2) r3 r4 hob
  have hgb:(val s).ownBlock≠some g:=λe=>by
   rw[hob]at e;have h6:=hslot;rw[e]at h6;generalize val s=vx at h6;generalize L.map vecC=fx at h6;cases h6 with
   |some hm hr hc hx hn h0=>exact(hmore _ hm).2.1 rfl
  have hg2:w2.heap[g]?=some (.cells (Value.map (some g0)::us').toArray T (0,0)):=(r3.block g (AP hgl hBa.size) (λe=>hgb e.symm)).trans ((hBa.block g hgl).trans hgc)
  refine c_seq (Eu (N:=68) (L0:=[(0,.pointer (some ⟨g,0,none⟩)),(1,.string s),(5,.pointer (some ⟨w.heap.size,0,none⟩)),(6,.pointer (some ⟨g6,0,none⟩)),(8,val s)]) (L1:=[]) [7,8,9] [0,1,2,4,5] [[3,6],[3],[3],[]]
   [(0,.pointer (some ⟨g,0,none⟩)),(1,.pointer (some ⟨g,0,none⟩)),(2,.pointer (some ⟨g,0,none⟩)),(3,.map (some g0)),(4,.string s),(5,val s),(6,.agg us2.toArray)] aQ ζ ζ ζ ζ ζ hF0 hc.frm ⟨?_, ?_, ?_, ?_, ?_,trivial⟩ ?_)
  .exact⟨_,_,_,rfl,rfl,rfl,λa w hF hb K hK=>aT rfl rfl rfl (ex_move (hF.get 0 _ rfl)) hK⟩
  .exact⟨_,_,_,rfl,rfl,rfl,λa w hF hb K hK=>aT rfl rfl rfl (ex_nilp (hb _ rfl 0 _ 58 _ rfl rfl rfl rfl rfl)) hK⟩
  .exact⟨_,_,_,rfl,rfl,rfl,λa w hF hb K hK=>aT rfl rfl rfl (ex_field_addr (off:=0) ζ (hb _ rfl 1 _ 59 _ rfl rfl rfl rfl rfl)) hK⟩
  .exact⟨_,_,_,rfl,rfl,rfl,λa w hF hb K hK=>aT rfl rfl rfl (ex_move (hF.get 1 _ rfl)) hK⟩
  .exact⟨_,_,_,rfl,rfl,rfl,λa w hF hb K hK=>aT rfl rfl rfl (ex_move (hF.get 8 _ rfl)) hK⟩
  refine⟨⟨?_, ?_,trivial⟩,_,rfl,λa hF hF1 hb=>fl_valw rfl rfl rfl (ex_lit8 hsl45 hel45 hz45 (hb _ rfl 6 _ 64 _ rfl rfl rfl rfl rfl) (by simp[hl2])) ⟨_,_,rfl,λ_ _ h=>h, ?_⟩⟩
  .exact⟨_,_,_,rfl,rfl,rfl,λa hF hF1 hb K hK=>aT rfl rfl rfl (eP (v:=.map (some g0)) ζ (hb _ rfl 2 _ 60 _ rfl rfl rfl rfl rfl) hg0w rfl) hK⟩
  .exact⟨_,_,_,rfl,rfl,rfl,λa hF hF1 hb K hK=>aT rfl rfl rfl (nJ hrow (hF.get 5 _ rfl) hg5 (by simp[hl2])) hK⟩
  refine⟨⟨?_,trivial⟩,_,rfl,λa hF hF1 hb=>fl_valw rfl rfl rfl (ex_append (hb _ rfl 5 _ 63 _ rfl rfl rfl rfl rfl) (hF1.get 65 _ rfl) r1) ⟨_,_,rfl,λ_ _ h=>h, ?_⟩⟩
  .exact⟨_,_,_,rfl,rfl,rfl,λa hF hF1 hb K hK=>aT rfl rfl rfl (eP (v:=.map (some g0)) ζ (hb _ rfl 2 _ 60 _ rfl rfl rfl rfl rfl) ((hBa.block g hgl).trans hgc) rfl) hK⟩
  refine⟨⟨?_,trivial⟩,_,rfl,λa hF hF1 hb=>fl_skipw rfl rfl rfl (ex_mapUpdate (hb _ rfl 3 _ 61 _ rfl rfl rfl rfl rfl) (hb _ rfl 4 _ 62 _ rfl rfl rfl rfl rfl) (hF1.get 66 _ rfl) j1) ⟨undef,_,rfl,λ_ _ h=>h, ?_⟩⟩
  .exact⟨_,_,_,rfl,rfl,rfl,λa hF hF1 hb K hK=>aT rfl rfl rfl (eP (v:=.map (some g0)) ζ (hb _ rfl 2 _ 60 _ rfl rfl rfl rfl rfl) hg2 rfl) hK⟩
  refine⟨trivial,λa hF hF1 hC=>x_tn ?_⟩;clear hC hF1;have hlt5:w.heap.size<w1.heap.size:=lt_of_heap hg5;have hlt6:g6<w1.heap.size:=lt_of_heap hh6;have k5:w3.heap[w.heap.size]?=some (.cells us2.toArray 45 (0,0)):=(j7 _ ω ω (λe=>by have:=hogm _ e;omega)).trans ((hkeepA _ hlt5).trans hg5);have k6:w3.heap[g6]?=some (.cells cs6 T6 (0,0)):=(j7 _ ω ω (λe=>by have:=hogm _ e;omega)).trans ((hkeepA _ hlt6).trans hh6);have hst:=run_storeAt (P:=Tryz.prog) (w:=w3) (t:=45) (T:=T6) (g:=g6) (off:=0) (v:=.agg us2.toArray) (vs:=us2.toArray) (cs:=cs6) rfl (by rw[hsz45];simp[hl2]) (all_one hv2.one) k6 (by simp[hl2,hl6]);rw[splice_all (by simp[hl2,hl6])]at hst;have hgr:=grownBy_setRow w3 g6 us2.toArray;have hh6':=setRow_heap w3 g6 cs6 us2.toArray _ _ k6;refine c_seq (c_reg (wp1 rfl (nJ hrow (hF.ev rfl) k5 (by simp[hl2])) ?_));replace hF:=hF.put (d:=67) ψ (.agg us2.toArray);refine wp1s rfl (ex_store (hF.ev rfl) (hF.ev rfl) hst) ?_;refine(show Exit.then _ _ .normal _ _ from x_tn (c_ret ?_));refine fin_res rfl hF.defers (xX hF rfl hrow hh6' (by simp[hl2])) ⟨_,rfl, ?_⟩;obtain⟨e1,e2⟩:=jnew (sq:=sq) (sp:=sp) (s:=s) (v:=v) (n:=n) (by rw[hL];exact hbi);rw[e1,e2];obtain⟨o1,o2,o3,o4,o5⟩:=j6
  have hmX:∀i,i∈bl more->i∈X/\i<w.heap.size:=λi hi=>by
   obtain⟨q,hq,rfl⟩:=dR.1 hi;exact⟨(hmore q hq).1,lt_of_heap (hmore q hq).2.2⟩
  have hq6:∀q∈more',q.1≠g6:=λq hq e=>by
   rcases(j4 q hq).1 with h|h
   .have:=(hmX _ h).2;omega
   .omega
  have hs5:w.heap.size<=(w3.setRow g6 us2.toArray).heap.size:=aP o4 hgr.size;have h5k:∀i,i<w.heap.size->i≠g0->i ∉ bl more->(w3.setRow g6 us2.toArray).heap[i]?=w.heap[i]?:=λi hi h1 h2=>(hgr.block i (AP hi o4) (λe=>by cases e;omega)).trans (o5 i hi h1 h2)
  have hE5:Ext w X (w3.setRow g6 us2.toArray) (bl more'++X):=⟨hs5,λi hi hx hnm=>⟨h5k i hi (λe=>hnm _ _ (e▸hmap)) (λh=>hx (hmX i h).1),λhm=>by
   rcases jP.1 hm with hm|hm
   .obtain⟨q,hq,rfl⟩:=dR.1 hm;rcases(j4 q hq).1 with h|h
    .exact hx (hmX _ h).1
    .omega
   .exact hx hm⟩⟩
  have hE3:Ext w3 (bl more'++(g6::X)) (w3.setRow g6 us2.toArray) (bl more'++X):=(Ext.write hgr η).trans (Ext.drop λx hx=>by
   rcases jP.1 hx with hx|hx
   .exact qX _ hx
   .exact mZ _ (CO _ hx))
  refine⟨more',mo',j2,(hgr.block g0 (lt_of_heap j3) (λe=>by cases e;omega)).trans j3,λq hq=>⟨?_,(hgr.block q.1 (lt_of_heap (j4 q hq).2) (λe=>hq6 q hq (by injection e))).trans (j4 q hq).2⟩,j5,⟨hgr.os.trans o1,hgr.tape.trans o2,hgr.output.trans o3,hs5,h5k⟩,.d (.agg (hv2.ext hE5)),(jgho Tryz.prog 9 45 8 _).ext j8 hE3⟩;rcases(j4 q hq).1 with h|h
  .exact .inl h
  .right;omega
end Go.Proofs.YtmniihkenijjpaaGreatDoor
namespace Go.Proofs.YtmniihkenijjpaaGreatDoor
open Go Go.RowKit Go.Sw Go.Shelf
set_option maxRecDepth 100000
set_option maxHeartbeats 16000000
set_option synthInstance.maxSize 4000
set_option synthInstance.maxHeartbeats 400000
def Ew:Tab:=(2000000000,.flag)::uO
theorem mF:tabOk Tryz.prog Ew=true:=ζ
def XJ:Go.Shelf.Ren:=⟨λn=>if n=41 then 31 else n,λn=>if n=22 then 53 else if n=23 then 45 else n,id⟩
theorem Xi:Go.Proofs.SlLaysE0.n41 Tryz.prog XJ where
 mixed:=aQ
 f41:=⟨ "slices.Clone[[]swarf/api.Vec,swarf/api.Vec]",ψ,uo Tryz.func31 (congrArg some (Eq.refl _))⟩
 t4:=Tryz.underlying4
 a4:=Tryz.isAgg4
 z4:=Tryz.sizeOf4
 v4:=Tryz.zeroValue4
 t22:=Tryz.underlying53
 a22:=Tryz.isAgg53
 z22:=Tryz.sizeOf53
 v22:=Tryz.zeroValue53
theorem Rz:∃i0,Tryz.prog.info? 45=some i0/\i0.zero=some (.agg #[.bool false,.slice none 0 0,.bool false,.slice none 0 0,.bool false,.slice none 0 0,.bool false,.slice none 0 0])/\i0.size=8/\i0.bytes=128:=info_parts ζ
instance afk(es:List (List Cell)):DenI Tryz.prog 31 [.c (.sl 8 es)] (es.length<=1000000) (.own 45 8 es):=⟨λhp=>by
 obtain⟨i0,h1,h2,h3,h4⟩:=Rz
 exact den_clone_own Xi ζ i0 _ h1 h2 h3 ω rfl ψ Tryz.sizeOf45 hp⟩
instance abh(e:Ent):DenI Tryz.prog 30 [.agg (aK e)] (e.pts.length<=1000000) (xZ e):=⟨λhp=>by
 refine den_of (τ:=uO) fU aQ Tryz.func30 rfl ζ ζ ζ ?_
 all_goals(repeat'((try(conv=>whnf));first
  |(with_reducible first|apply zab|apply zac|refine zad (λ_=>?_) (λ_=>?_))|refine zas ζ ?_|refine zan P0 ?_ ?_|apply zaq))
 all_goals(try apply zar)
 all_goals(try simp only[aG]at *)
 all_goals(try simp(disch:=omega) only[aS]at *)
 all_goals first
  |(exfalso;omega)|exact Dw ω rfl ω|exact Hl ω|omega⟩
instance(priority:=3000) ku(e:Ent):DenI Tryz.prog 30 [.agg (aK e)] (e.pts.length<=1000000) (.tup [.c (.sl 8 ((aA e).map vecC)),.bool (decide (aA e≠[]))]):=⟨λhp=>O5 rfl (by by_cases h:aA e=[]<;>simp [h]) ((inferInstance:DenI Tryz.prog 30 [.agg (aK e)] _ (xZ e)).den hp)⟩
instance aa5(e:Ent)(l:List P2):DenI Tryz.prog 94 [.agg (aK e),.c (.sl 8 (l.map vecC))] (e.pts.length<=1000000/\l.length=(aA e).length) (.agg (aK (dQ e l))):=⟨λhp=>by
 obtain⟨hp1,hp2⟩:=hp;have hsh:=qV e
 all_goals refine den_of (τ:=Ew) mF aQ Tryz.func94 rfl ζ ζ ζ ?_
 all_goals(repeat'((try(conv=>whnf));first
  |refine zaa ?_ ?_|(with_reducible refine zad (λ_=>?_) (λ_=>?_))|refine zah ?_ ?_|refine zas ζ ?_|refine um P0 _ ?_ ?_|refine zan P0 ?_ ?_|apply zaq))
 all_goals(try apply zar)
 all_goals(try simp only[aG]at *)
 all_goals(try simp(disch:=omega) only[aS]at *)
 all_goals first
  |omega|(simp only[kF,aG])|exact zf ω hp2 ω|exact Em ξ hp2⟩
instance Yy(e:Ent):DenI Tryz.prog 94 [.agg (aK e),.c (.sl 0 [])] (e.pts.length<=1000000) (.agg (aK e)):=⟨λhp=>by
 refine den_of (τ:=Ew) mF aQ Tryz.func94 rfl ζ ζ ζ ?_
 all_goals(repeat'((try(conv=>whnf));first
  |refine zaa ?_ ?_|(with_reducible refine zad (λ_=>?_) (λ_=>?_))|refine zah ?_ ?_|apply zaq))
 all_goals(try apply zar)
 all_goals(try simp only[aG]at *)
 all_goals first
  |omega|rfl|(exfalso;simp at *;done)⟩
instance UF(l:List (Ent × Nat))(i k:Nat)(v:P2):DenI Tryz.prog 97 [.c (.sl 8 (l.map iP)),.int .i64 (i:Nat),.int .i64 (k:Nat),.agg (vecC v)] (l.length<=12/\i<l.length/\k<=1/\aF v/\∀x∈l,Sl x.1) (.bool (nH l (l.getD i N0).1.layer i k v)):=⟨λ⟨h1,h2,hk,h3,h4⟩=>by
 refine den_of (τ:=uO) fU aQ Tryz.func97 rfl ζ ζ ζ ?_
 (conv=>whnf)
 refine Sw.Loop.inv (α:=Nat) (λx=>[(0,.c (.sl 8 (l.map iP))),(1,.int .i64 (i:Nat)),(2,.int .i64 (k:Nat)),(7,.ptr 7 0),(15,.c (.sl 8 (l.map iP))),(16,.int .i64 (l.length:Nat)),(17,.int .i64 (x:Nat))]) (λx=>[(7,.var (vecC v))]) (λx=>x<=l.length/\∀j<x,metAt l (l.getD i N0).1.layer i k v j=false) (λx=>l.length-x) 0 ?_ ?_ ?_ (λx hx=>?_)
 .exact⟨rfl,rfl,rfl,rfl,rfl,by simp only[aG];rfl,rfl,trivial⟩
 .exact⟨rfl,trivial⟩
 .exact⟨jd _,λj hj=>absurd hj (Bd _)⟩
 obtain⟨hx1,hx2⟩:=hx;obtain⟨g1,g2,g3⟩:=Iy h4 x;rcases iV (l.getD x N0).1 with hE|⟨a,b,hE⟩
 .haveI ie:DenI Tryz.prog 30 [.agg (aK (l.getD (Int.toNat ((x:Nat):Int)) N0).1)] ((l.getD x N0).1.pts.length<=1000000) (.tup [.c (.sl 8 []),.bool false]):=⟨λhp=>by have:=(ku (l.getD x N0).1).den hp;rw[hE]at this;simpa using this⟩
  all_goals(repeat'((try(conv=>whnf));first
   |apply zaf|refine zaa ?_ ?_|refine zao ?_ (λ_=>?_) (λ_=>?_)|(with_reducible first|apply zab|apply zac|refine zad (λ_=>?_) (λ_=>?_)|refine zae (λ_=>?_) (λ_=>?_))|refine zat (λ_=>?_) (λ_=>?_)|refine zah ?_ ?_|refine zas ζ ?_|refine zal ?_ ?_|refine zam ?_ ?_|(with_reducible first|refine zak ?_ ?_|apply zaj|apply zai)|refine zan N0 ?_ ?_|apply zaq))
  all_goals(try apply zar)
  all_goals first
   |((conv=>whnf);refine Sw.Loop.unroll ?_)|skip
  all_goals(repeat'((try rw[Ez]);(try rw[Aw]);(try(conv=>whnf));first
   |apply zaf|refine zaa ?_ ?_|(with_reducible first|apply zab|apply zac)|refine dS (by simp only[bn,bG];decide) ?_|refine dY (by simp only[bn,bG];decide) ?_|refine dS ψ ?_|refine dY ψ ?_|(with_reducible first|refine zad (λ_=>?_) (λ_=>?_)|refine zae (λ_=>?_) (λ_=>?_))|refine zat (λ_=>?_) (λ_=>?_)|refine zah ?_ ?_|refine zas ζ ?_|refine zal ?_ ?_|refine zam ?_ ?_|(with_reducible first|refine zak ?_ ?_|apply zaj|apply zai)|apply zaq))
  all_goals(try apply zar)
  all_goals(try simp only[aG,dh]at *)
  all_goals first
   |omega|((with_reducible show _/\_);first|omega|exact⟨aP h3.1 ψ,aP h3.2 ψ,aP ha.1 ψ,aP ha.2 ψ⟩|exact⟨aP h3.1 ψ,aP h3.2 ψ,aP hb.1 ψ,aP hb.2 ψ⟩)|exact zbb|exact zbc|(exfalso;rename_i q;simp at q;done)|(have hm:=zN (i:=i) (k:=k) (v:=v) (l:=l) (x:=x) ω ξ;(conv=>whnf);exact⟨x+1,⟨⟨rfl,rfl,rfl,rfl,rfl,rfl,aH ω,trivial⟩,⟨rfl,trivial⟩,⟨ω,rD hx2 hm⟩,(by show l.length-(x+1)<l.length-x;omega)⟩⟩)|(have hm:=yQ (s:=(l.getD i N0).1.layer) (i:=i) (k:=k) (v:=v) (l:=l) (x:=x) ω hE;(conv=>whnf);exact⟨x+1,⟨⟨rfl,rfl,rfl,rfl,rfl,rfl,aH ω,trivial⟩,⟨rfl,trivial⟩,⟨ω,rD hx2 hm⟩,(by show l.length-(x+1)<l.length-x;omega)⟩⟩)|skip
 .haveI ie:DenI Tryz.prog 30 [.agg (aK (l.getD (Int.toNat ((x:Nat):Int)) N0).1)] ((l.getD x N0).1.pts.length<=1000000) (.tup [.c (.sl 8 [vecC a,vecC b]),.bool true]):=⟨λhp=>by have:=(ku (l.getD x N0).1).den hp;rw[hE]at this;simpa using this⟩
  have ha:aF a:=g1 a (dF (by rw[hE];simp));have hb:aF b:=g1 b (dF (by rw[hE];simp))
  all_goals(repeat'((try(conv=>whnf));first
   |apply zaf|refine zaa ?_ ?_|refine zao ?_ (λ_=>?_) (λ_=>?_)|(with_reducible first|apply zab|apply zac|refine zad (λ_=>?_) (λ_=>?_)|refine zae (λ_=>?_) (λ_=>?_))|refine zat (λ_=>?_) (λ_=>?_)|refine zah ?_ ?_|refine zas ζ ?_|refine zal ?_ ?_|refine zam ?_ ?_|(with_reducible first|refine zak ?_ ?_|apply zaj|apply zai)|refine zan N0 ?_ ?_|apply zaq))
  all_goals(try apply zar)
  all_goals first
   |((conv=>whnf);refine Sw.Loop.unroll ?_)|skip
  all_goals(repeat'((try rw[Ez]);(try rw[Aw]);(try(conv=>whnf));first
   |apply zaf|refine zaa ?_ ?_|(with_reducible first|apply zab|apply zac)|refine dS (by simp only[bn,bG];decide) ?_|refine dY (by simp only[bn,bG];decide) ?_|refine dS ψ ?_|refine dY ψ ?_|(with_reducible first|refine zad (λ_=>?_) (λ_=>?_)|refine zae (λ_=>?_) (λ_=>?_))|refine zat (λ_=>?_) (λ_=>?_)|refine zah ?_ ?_|refine zas ζ ?_|refine zal ?_ ?_|refine zam ?_ ?_|(with_reducible first|refine zak ?_ ?_|apply zaj|apply zai)|apply zaq))
  all_goals(try apply zar)
  all_goals first
   |((conv=>whnf);refine Sw.Loop.unroll ?_)|skip
  all_goals(repeat'((try rw[Ez]);(try rw[Aw]);(try(conv=>whnf));first
   |apply zaf|refine zaa ?_ ?_|(with_reducible first|apply zab|apply zac)|refine dS (by simp only[bn,bG];decide) ?_|refine dY (by simp only[bn,bG];decide) ?_|refine dS ψ ?_|refine dY ψ ?_|(with_reducible first|refine zad (λ_=>?_) (λ_=>?_)|refine zae (λ_=>?_) (λ_=>?_))|refine zat (λ_=>?_) (λ_=>?_)|refine zah ?_ ?_|refine zas ζ ?_|refine zal ?_ ?_|refine zam ?_ ?_|(with_reducible first|refine zak ?_ ?_|apply zaj|apply zai)|apply zaq))
  all_goals(try apply zar)
  all_goals first
   |((conv=>whnf);refine Sw.Loop.unroll ?_)|skip
  all_goals(repeat'((try rw[Ez]);(try rw[Aw]);(try(conv=>whnf));first
   |apply zaf|refine zaa ?_ ?_|(with_reducible first|apply zab|apply zac)|refine dS (by simp only[bn,bG];decide) ?_|refine dY (by simp only[bn,bG];decide) ?_|refine dS ψ ?_|refine dY ψ ?_|(with_reducible first|refine zad (λ_=>?_) (λ_=>?_)|refine zae (λ_=>?_) (λ_=>?_))|refine zat (λ_=>?_) (λ_=>?_)|refine zah ?_ ?_|refine zas ζ ?_|refine zal ?_ ?_|refine zam ?_ ?_|(with_reducible first|refine zak ?_ ?_|apply zaj|apply zai)|apply zaq))
  all_goals(try apply zar)
  all_goals(try simp only[aG,dh]at *)
  all_goals first
   |omega|((with_reducible show _/\_);first|omega|exact⟨aP h3.1 ψ,aP h3.2 ψ,aP ha.1 ψ,aP ha.2 ψ⟩|exact⟨aP h3.1 ψ,aP h3.2 ψ,aP hb.1 ψ,aP hb.2 ψ⟩)|exact zbb|exact zbc|(exfalso;rename_i q;simp at q;done)|(have hm:=zN (i:=i) (k:=k) (v:=v) (l:=l) (x:=x) ω ξ;(conv=>whnf);exact⟨x+1,⟨⟨rfl,rfl,rfl,rfl,rfl,rfl,aH ω,trivial⟩,⟨rfl,trivial⟩,⟨ω,rD hx2 hm⟩,(by show l.length-(x+1)<l.length-x;omega)⟩⟩)|(have hm:metAt l (l.getD i N0).1.layer i k v x=false:=(by(rw[BJ ω hE ξ];clear hx2 h4;grind));(conv=>whnf);exact⟨x+1,⟨⟨rfl,rfl,rfl,rfl,rfl,rfl,aH ω,trivial⟩,⟨rfl,trivial⟩,⟨ω,rD hx2 hm⟩,(by show l.length-(x+1)<l.length-x;omega)⟩⟩)|skip⟩
instance ac6(l:List (Ent × Nat))(i:Nat)(v:P2):DenI Tryz.prog 97 [.c (.sl 8 (l.map iP)),.int .i64 (i:Nat),.int .i64 0,.agg (vecC v)] (l.length<=12/\i<l.length/\aF v/\∀x∈l,Sl x.1) (.bool (nH l (l.getD i N0).1.layer i 0 v)):=⟨λhp=>(UF l i 0 v).den ⟨hp.1,hp.2.1,ω,hp.2.2⟩⟩
instance ada(l:List (Ent × Nat))(i:Nat)(v:P2):DenI Tryz.prog 97 [.c (.sl 8 (l.map iP)),.int .i64 (i:Nat),.int .i64 1,.agg (vecC v)] (l.length<=12/\i<l.length/\aF v/\∀x∈l,Sl x.1) (.bool (nH l (l.getD i N0).1.layer i 1 v)):=⟨λhp=>(UF l i 1 v).den ⟨hp.1,hp.2.1,ω,hp.2.2⟩⟩
instance ac8(l:List (Ent × Nat)):DenI Tryz.prog 54 [.c (.sl 8 (l.map iP))] (l.length<=12/\∀x∈l,Sl x.1) (.c (.sl 19 ((zy l).map jF))):=⟨λ⟨h1,h4⟩=>by
 refine den_of (τ:=uO) fU aQ Tryz.func54 rfl ζ ζ ζ ?_
 (conv=>whnf)
 refine Sw.Loop.ghost 3 100 47 19 ?_ rfl rfl rfl ψ;refine Sw.Loop.inv (α:=Nat) (λx=>[(0,.c (.sl 8 (l.map iP))),(10,.c (.sl 8 (l.map iP))),(11,.int .i64 (l.length:Nat)),(12,.int .i64 (x:Nat)),(3,.gs 100 ((OE l x).map jF).length)]) (λx=>[(100,.grow 47 19 ((OE l x).map jF))]) (λx=>x<=l.length) (λx=>l.length-x) 0 ?_ ?_ ?_ (λx hx=>?_)
 .exact⟨rfl,rfl,by simp only[aG];rfl,rfl,rfl,trivial⟩
 .exact⟨rfl,trivial⟩
 .exact jd _
 have hol:=vX l x hx;obtain⟨g1,g2,g3⟩:=Iy h4 x;rcases iV (l.getD x N0).1 with hE|⟨a,b,hE⟩
 .haveI ie:DenI Tryz.prog 30 [.agg (aK (l.getD (Int.toNat ((x:Nat):Int)) N0).1)] ((l.getD x N0).1.pts.length<=1000000) (.tup [.c (.sl 8 []),.bool false]):=⟨λhp=>by have:=(ku (l.getD x N0).1).den hp;rw[hE]at this;simpa using this⟩
  all_goals(repeat'((try(conv=>whnf));first
   |refine zaa ?_ ?_|(with_reducible refine zad (λ_=>?_) (λ_=>?_))|refine zah ?_ ?_|refine zan N0 ?_ ?_|apply zaq))
  all_goals(try apply zar)
  all_goals first
   |((conv=>whnf);refine Sw.Loop.unroll ?_)|skip
  all_goals(repeat'((try rw[Ez]);(try rw[Aw]);(try(conv=>whnf));first
   |refine dY (by simp only[bn,bG];decide) ?_))
  all_goals(try simp only[aG,dh]at *)
  all_goals first
   |omega|exact zba|(have hA:=Ik (l:=l) (x:=x) ω hE;(conv=>whnf);exact⟨x+1,⟨⟨rfl,rfl,rfl,aH ω,(by(simp only[hA,bH,bK,bV,bI,bF,aG,bn,bG]);(first|done|rfl)),trivial⟩,⟨(by(simp only[hA,bH,bK,bV,bI]);(first|done|rfl)),trivial⟩,ω,(by show l.length-(x+1)<l.length-x;omega)⟩⟩)
 .haveI ie:DenI Tryz.prog 30 [.agg (aK (l.getD (Int.toNat ((x:Nat):Int)) N0).1)] ((l.getD x N0).1.pts.length<=1000000) (.tup [.c (.sl 8 [vecC a,vecC b]),.bool true]):=⟨λhp=>by have:=(ku (l.getD x N0).1).den hp;rw[hE]at this;simpa using this⟩
  have ha:aF a:=g1 a (dF (by rw[hE];simp));have hb:aF b:=g1 b (dF (by rw[hE];simp))
  all_goals(repeat'((try(conv=>whnf));first
   |refine zaa ?_ ?_|(with_reducible refine zad (λ_=>?_) (λ_=>?_))|refine zah ?_ ?_|refine zan N0 ?_ ?_|apply zaq))
  all_goals(try apply zar)
  all_goals first
   |((conv=>whnf);refine Sw.Loop.unroll ?_)|skip
  all_goals(repeat'((try rw[Ez]);(try rw[Aw]);(try(conv=>whnf));first
   |refine zaa ?_ ?_|(with_reducible refine zad (λ_=>?_) (λ_=>?_))|refine zat (λ_=>?_) (λ_=>?_)|refine zah ?_ ?_|(with_reducible apply zaj)))
  all_goals(try apply zar)
  all_goals first
   |((conv=>whnf);refine Sw.Loop.unroll ?_)|skip
  all_goals(repeat'((try rw[Ez]);(try rw[Aw]);(try(conv=>whnf));first
   |refine zaa ?_ ?_|(with_reducible refine zad (λ_=>?_) (λ_=>?_))|refine zat (λ_=>?_) (λ_=>?_)|refine zah ?_ ?_|(with_reducible apply zai)))
  all_goals(try apply zar)
  all_goals first
   |((conv=>whnf);refine Sw.Loop.unroll ?_)|skip
  all_goals(repeat'((try rw[Ez]);(try rw[Aw]);(try(conv=>whnf));first
   |(with_reducible refine zad (λ_=>?_) (λ_=>?_))))
  all_goals(try simp only[aG,dh]at *)
  all_goals first
   |omega|exact za5|((with_reducible show _/\_);first|omega|exact⟨h1,ω,ha,h4⟩|exact⟨h1,ω,hb,h4⟩)|exact zba|(exfalso;rename_i q;simp at q;done)|(have hA:=Hf (l:=l) (x:=x) ω hE;first|(have q1:=zX (n:=(l.getD x N0).2) (l:=l) (s:=(l.getD x N0).1.layer) (i:=x) (k:=0) (v:=a) ξ;have q2:=zX (n:=(l.getD x N0).2) (l:=l) (s:=(l.getD x N0).1.layer) (i:=x) (k:=1) (v:=b) ξ;(conv=>whnf);exact⟨x+1,⟨⟨rfl,rfl,rfl,aH ω,(by(simp only[hA,q1,q2,mX,pF,jQ,bH,bK,bV,bI,bF,aG,bn,bG]);(first|done|rfl)),trivial⟩,⟨(by(simp only[hA,q1,q2,mX,pF,jQ,bH,bK,bV,bI]);(first|done|rfl)),trivial⟩,ω,(by show l.length-(x+1)<l.length-x;omega)⟩⟩)|(have q1:=zX (n:=(l.getD x N0).2) (l:=l) (s:=(l.getD x N0).1.layer) (i:=x) (k:=0) (v:=a) ξ;have q2:=Bv (n:=(l.getD x N0).2) (l:=l) (s:=(l.getD x N0).1.layer) (i:=x) (k:=1) (v:=b) ξ;(conv=>whnf);exact⟨x+1,⟨⟨rfl,rfl,rfl,aH ω,(by(simp only[hA,q1,q2,mX,pF,jQ,bH,bK,bV,bI,bF,aG,bn,bG]);(first|done|rfl)),trivial⟩,⟨(by(simp only[hA,q1,q2,mX,pF,jQ,bH,bK,bV,bI]);(first|done|rfl)),trivial⟩,ω,(by show l.length-(x+1)<l.length-x;omega)⟩⟩)|(have q1:=Bv (n:=(l.getD x N0).2) (l:=l) (s:=(l.getD x N0).1.layer) (i:=x) (k:=0) (v:=a) ξ;have q2:=zX (n:=(l.getD x N0).2) (l:=l) (s:=(l.getD x N0).1.layer) (i:=x) (k:=1) (v:=b) ξ;(conv=>whnf);exact⟨x+1,⟨⟨rfl,rfl,rfl,aH ω,(by(simp only[hA,q1,q2,mX,pF,jQ,bH,bK,bV,bI,bF,aG,bn,bG]);(first|done|rfl)),trivial⟩,⟨(by(simp only[hA,q1,q2,mX,pF,jQ,bH,bK,bV,bI]);(first|done|rfl)),trivial⟩,ω,(by show l.length-(x+1)<l.length-x;omega)⟩⟩)|(have q1:=Bv (n:=(l.getD x N0).2) (l:=l) (s:=(l.getD x N0).1.layer) (i:=x) (k:=0) (v:=a) ξ;have q2:=Bv (n:=(l.getD x N0).2) (l:=l) (s:=(l.getD x N0).1.layer) (i:=x) (k:=1) (v:=b) ξ;(conv=>whnf);exact⟨x+1,⟨⟨rfl,rfl,rfl,aH ω,(by(simp only[hA,q1,q2,mX,pF,jQ,bH,bK,bV,bI,bF,aG,bn,bG]);(first|done|rfl)),trivial⟩,⟨(by(simp only[hA,q1,q2,mX,pF,jQ,bH,bK,bV,bI]);(first|done|rfl)),trivial⟩,ω,(by show l.length-(x+1)<l.length-x;omega)⟩⟩))⟩
instance afH(a b c d:Rat):DenI Tryz.prog 56 [Q2 a b,Q2 c d] (rz a<=1000/\rz b<=1000/\rz c<=1000/\rz d<=1000) (.bool (decide (a=c) && decide (b=d))):=⟨λhp=>by
 have i_a:RzB a 1000:=⟨hp.1⟩
 have i_b:RzB b 1000:=⟨hp.2.1⟩
 have i_c:RzB c 1000:=⟨hp.2.2.1⟩
 have i_d:RzB d 1000:=⟨hp.2.2.2⟩
 all_goals refine den_of (τ:=tab) fJ aQ Tryz.func56 rfl ζ ζ ζ ?_
 all_goals(repeat'((try(conv=>whnf));first
  |apply zaf|refine zaa ?_ ?_|refine zao ?_ (λ_=>?_) (λ_=>?_)|(with_reducible first|apply zab|apply zac|refine zad (λ_=>?_) (λ_=>?_)|refine zae (λ_=>?_) (λ_=>?_))|refine zat (λ_=>?_) (λ_=>?_)|refine zah ?_ ?_|refine zas ζ ?_|refine zal ?_ ?_|refine zam ?_ ?_|(with_reducible first|refine zak ?_ ?_|apply zaj|apply zai)|apply zaq))
 all_goals(try apply zar)
 all_goals(try simp only[aW]at *)
 all_goals first
  |rfl|exact za1|exact zav|(exfalso;simp_all;done)|(exfalso;grind)|omega|exact zav|skip⟩
instance aeA(a:Rat):DenI Tryz.prog 23 [R a] (rz a<=10000000) (R (a*a)):=⟨λhp=>by
 have i_a:RzB a 10000000:=⟨hp⟩
 all_goals refine den_of (τ:=tab) fJ aQ Tryz.func23 rfl ζ ζ ζ ?_
 all_goals(repeat'((try(conv=>whnf));first
  |apply zaf|refine zaa ?_ ?_|refine zao ?_ (λ_=>?_) (λ_=>?_)|(with_reducible first|apply zab|apply zac|refine zad (λ_=>?_) (λ_=>?_)|refine zae (λ_=>?_) (λ_=>?_))|refine zat (λ_=>?_) (λ_=>?_)|refine zah ?_ ?_|refine zas ζ ?_|refine zal ?_ ?_|refine zam ?_ ?_|(with_reducible first|refine zak ?_ ?_|apply zaj|apply zai)|apply zaq))
 all_goals(try apply zar)
 all_goals(try simp only[aW]at *)
 all_goals first
  |rfl|exact zav|(exfalso;simp_all;done)|(exfalso;grind)|omega|exact zav|skip⟩
instance ae0(a b c d:Rat):DenI Tryz.prog 25 [Q2 a b,Q2 c d] (rz a<=1000/\rz b<=1000/\rz c<=1000/\rz d<=1000) (R (farR (a,b) (c,d))):=⟨λhp=>by
 have i_a:RzB a 1000:=⟨hp.1⟩
 have i_b:RzB b 1000:=⟨hp.2.1⟩
 have i_c:RzB c 1000:=⟨hp.2.2.1⟩
 have i_d:RzB d 1000:=⟨hp.2.2.2⟩
 all_goals refine den_of (τ:=tab) fJ aQ Tryz.func25 rfl ζ ζ ζ ?_
 all_goals(repeat'((try(conv=>whnf));first
  |apply zaf|refine zaa ?_ ?_|refine zao ?_ (λ_=>?_) (λ_=>?_)|(with_reducible first|apply zab|apply zac|refine zad (λ_=>?_) (λ_=>?_)|refine zae (λ_=>?_) (λ_=>?_))|refine zat (λ_=>?_) (λ_=>?_)|refine zah ?_ ?_|refine zas ζ ?_|refine zal ?_ ?_|refine zam ?_ ?_|(with_reducible first|refine zak ?_ ?_|apply zaj|apply zai)|apply zaq))
 all_goals(try apply zar)
 all_goals(try simp only[aW]at *)
 all_goals first
  |rfl|exact zav|(exfalso;simp_all;done)|(exfalso;grind)|omega|exact zav|skip⟩
instance FT(sp:Spots)(s:ByteArray)(v:P2)(tol:Rat):DenI Tryz.prog 55 [.c (.sl 9 (sp.map pK)),.c (.v (.string s)),.agg (vecC v),R tol] (sp.length<=1000000/\aF v/\rz tol<=12/\∀p∈sp,aF p.2) (UG (nearG (tol*tol) v (spotsAt sp s))):=⟨λ⟨h1,hv,ht,hs⟩=>by
 have i_t:RzB tol 12:=⟨ht⟩
 have hq:rz (tol*tol)<=1000:=dX ω
 have hgd:∀i,aF (sp.getD i S0).2:=λi=>by
  by_cases hi:i<sp.length
  .have:sp.getD i S0=sp[i]:=by simp[iI,hi]
   rw[this];exact hs _ (wW hi)
  .have:sp.getD i S0=S0:=by simp[iI,Nat.le_of_not_lt hi]
   rw[this];exact⟨by decide +kernel,by decide +kernel⟩
 clear hs;refine den_of (τ:=uO) fU aQ Tryz.func55 rfl ζ ζ ζ ?_
 (conv=>whnf)
 refine Sw.Loop.inv (α:=Nat×Int) (λz=>[(0,.c (.sl 9 (sp.map pK))),(1,.c (.v (.string s))),(6,.ptr 6 0),(7,.ptr 7 0),(8,.ptr 8 0),(10,.int .i64 z.2),(11,.int .i64 (z.1:Nat))]) (λz=>[(6,.var (vecC v)),(7,.var (ratC tol)),(8,.var PD)]) (λz=>z.1<=sp.length/\kC (tol*tol) v s sp z.1 z.2) (λz=>sp.length-z.1) (0,-1) ?_ ?_ ?_ (λz hz=>?_)
 .exact⟨rfl,rfl,rfl,rfl,rfl,rfl,rfl,trivial⟩
 .exact⟨rfl,rfl,rfl,trivial⟩
 .exact⟨jd _,ZQ⟩
 obtain⟨x,b⟩:=z;obtain⟨hx,hb⟩:=hz;simp only at hx hb;have hbx:b = -1\/(0<=b/\b<x):=hb.elim (λh => .inl h.1) (λh => .inr ⟨h.1,h.2.1⟩)
 all_goals(repeat'((try(conv=>whnf));first
  |apply zaf|refine zaa ?_ ?_|refine zao ?_ (λ_=>?_) (λ_=>?_)|(with_reducible first|apply zab|apply zac|refine zad (λ_=>?_) (λ_=>?_)|refine zae (λ_=>?_) (λ_=>?_))|refine zat (λ_=>?_) (λ_=>?_)|refine zah ?_ ?_|refine zas ζ ?_|refine zal ?_ ?_|refine zam ?_ ?_|(with_reducible first|refine zak ?_ ?_|apply zaj|apply zai)|refine zan S0 ?_ ?_|apply zaq))
 all_goals(try apply zar)
 all_goals(try simp only[aG,dh]at *)
 all_goals(try simp only[aW]at *)
 all_goals first
  |omega|exact⟨aP (hgd _).1 ψ,aP (hgd _).2 ψ,aP hv.1 ψ,aP hv.2 ψ⟩|exact aP ht ψ|exact⟨aP (mg (hgd _).1 (hgd _).2 hv.1 hv.2) ψ,aP hq ψ⟩|exact⟨aP (mg (hgd _).1 (hgd _).2 hv.1 hv.2) ψ,aP (mg (hgd _).1 (hgd _).2 hv.1 hv.2) ψ⟩|((with_reducible show packA _=_);have hxx:x=sp.length:=ω;subst hxx;rw[<-Pg];rcases hb with⟨q1,q2⟩|⟨q1,q2,q3⟩<;>first|(exfalso;omega)|(rw[q2];rfl)|(rw[q3];rfl))|((conv=>whnf);exact⟨(x+1,b),⟨⟨rfl,rfl,rfl,rfl,rfl,rfl,aH ω,trivial⟩,⟨rfl,rfl,rfl,trivial⟩,⟨(by show x+1<=sp.length;omega),Uf hb ω ξ⟩,(by show sp.length-(x+1)<sp.length-x;omega)⟩⟩)|((conv=>whnf);exact⟨(x+1,b),⟨⟨rfl,rfl,rfl,rfl,rfl,rfl,aH ω,trivial⟩,⟨rfl,rfl,rfl,trivial⟩,⟨(by show x+1<=sp.length;omega),MP hb ω ξ ξ⟩,(by show sp.length-(x+1)<sp.length-x;omega)⟩⟩)|((conv=>whnf);exact⟨(x+1,(x:Int)),⟨⟨rfl,rfl,rfl,rfl,rfl,rfl,aH ω,trivial⟩,⟨rfl,rfl,rfl,trivial⟩,⟨(by show x+1<=sp.length;omega),IK hb ω ξ ξ (by first|exact .inl ω|exact .inr ξ)⟩,(by show sp.length-(x+1)<sp.length-x;omega)⟩⟩)|((conv=>whnf);exact⟨(x+1,b),⟨⟨rfl,rfl,rfl,rfl,rfl,rfl,aH ω,trivial⟩,⟨rfl,rfl,rfl,trivial⟩,⟨(by show x+1<=sp.length;omega),G8 hb ω ξ ω ξ⟩,(by show sp.length-(x+1)<sp.length-x;omega)⟩⟩)|skip⟩
instance O1(e:Ent):DenI Tryz.prog 26 [.agg (aK e)] (e.pts.length<=1000000) (.tup [.own 45 8 ((aA e).map vecC),.bool (decide (aA e≠[]))]):=⟨λhp=>by
 refine den_own (τ:=Ew) [some (45,8),none] mF aQ Tryz.func26 rfl ζ ζ ζ ?_
 all_goals(repeat'((try(conv=>whnf));first
  |apply zaf|refine zaa ?_ ?_|refine zao ?_ (λ_=>?_) (λ_=>?_)|(with_reducible first|apply zab|apply zac|refine zad (λ_=>?_) (λ_=>?_)|refine zae (λ_=>?_) (λ_=>?_))|refine zat (λ_=>?_) (λ_=>?_)|refine zah ?_ ?_|refine zas ζ ?_|refine zal ?_ ?_|refine zam ?_ ?_|(with_reducible first|refine zak ?_ ?_|apply zaj|apply zai)|refine zan P0 ?_ ?_|apply zaq))
 all_goals(try apply zar)
 all_goals(try simp only[aG]at *)
 all_goals(try simp(disch:=omega) only[aS]at *)
 all_goals first
  |(exfalso;omega)|omega|exact Oq (e:=e) ω (by first|rfl|omega) (by first|rfl|omega)|exact za3|((with_reducible show(_:Nat)<=_);simp only[bF,bn,bG];omega)|(refine PV (e:=e) ?_;omega)|skip⟩
instance DX(a b:List P2):DenI Tryz.prog 130 [.c (.sl 8 (a.map vecC)),.c (.sl 8 (b.map vecC))] (a.length<=1000/\b.length<=1000/\(∀p∈a,aF p)/\∀p∈b,aF p) (.bool (nP a b)):=⟨λ⟨h1,h2,h3,h4⟩=>by
 refine den_of (τ:=uO) fU aQ Tryz.func130 rfl ζ ζ ζ ?_
 all_goals(repeat'((try(conv=>whnf));first
  |apply zaf|refine zaa ?_ ?_|refine zao ?_ (λ_=>?_) (λ_=>?_)|(with_reducible first|apply zab|apply zac|refine zad (λ_=>?_) (λ_=>?_)|refine zae (λ_=>?_) (λ_=>?_))|refine zat (λ_=>?_) (λ_=>?_)|refine zah ?_ ?_|refine zas ζ ?_|refine zal ?_ ?_|refine zam ?_ ?_|(with_reducible first|refine zak ?_ ?_|apply zaj|apply zai)|refine zan P0 ?_ ?_|apply zaq))
 all_goals(try apply zar)
 all_goals first
  |((conv=>whnf);refine Sw.Loop.inv (α:=Nat) (λx=>[(0,.c (.sl 8 (a.map vecC))),(1,.c (.sl 8 (b.map vecC))),(5,.bool (decide (a.take x=b.take x))),(6,.bool (decide (a.take x=b.reverse.take x))),(7,.int .i64 (x:Nat))]) (λx=>[]) (λx=>x<=a.length) (λx=>a.length-x) 0 ?_ ?_ ?_ (λx hx=>?_))|skip
 all_goals(repeat'((try(conv=>whnf));first
  |apply zaf|refine zaa ?_ ?_|refine zao ?_ (λ_=>?_) (λ_=>?_)|(with_reducible first|apply zab|apply zac|refine zad (λ_=>?_) (λ_=>?_)|refine zae (λ_=>?_) (λ_=>?_))|refine zat (λ_=>?_) (λ_=>?_)|refine zah ?_ ?_|refine zas ζ ?_|refine zal ?_ ?_|refine zam ?_ ?_|(with_reducible first|refine zak ?_ ?_|apply zaj|apply zai)|refine zan P0 ?_ ?_|apply zaq))
 all_goals(try apply zar)
 all_goals(try simp only[aG,dh]at *)
 all_goals(try simp(disch:=omega) only[aS]at *)
 all_goals first
  |omega|trivial|exact jd _|exact⟨rfl,rfl,rfl,rfl,rfl,trivial⟩|exact⟨aP (wo h3 _).1 ψ,aP (wo h3 _).2 ψ,aP (wo h4 _).1 ψ,aP (wo h4 _).2 ψ⟩|((with_reducible show packA _=_);rw[Ry ω];rfl)|((with_reducible show packA _=_);have hxx:x=a.length:=ω;subst hxx;have d1:decide (a.take a.length=b.take a.length)=true:=decide_eq_true ξ;rw[D9 ω,d1];rfl)|((with_reducible show packA _=_);have hxx:x=a.length:=ω;subst hxx;have d1:decide (a.take a.length=b.take a.length)=false:=decide_eq_false ξ;rw[D9 ω,d1,Bh];rfl)|(have hti:((b.length:Int)-1-(x:Int)).toNat=b.length-1-x:=ω;(first|have d1:decide (a.take x=b.take x)=true:=decide_eq_true ξ|have d1:decide (a.take x=b.take x)=false:=decide_eq_false ξ);(first|have d2:decide (a.take x=b.reverse.take x)=true:=decide_eq_true ξ|have d2:decide (a.take x=b.reverse.take x)=false:=decide_eq_false ξ);(conv=>whnf);exact⟨x+1,⟨⟨rfl,rfl,(by show some (AV.bool _)=some (AV.bool _);rw[GV (a:=a) (b:=b) (x:=x) ω ω,d1];(try simp only[hti]);(first|done|rfl|simp only[BM,PI])),(by show some (AV.bool _)=some (AV.bool _);rw[GV (a:=a) (b:=b.reverse) (x:=x) ω (by rw[List.length_reverse];omega),rev_at (b:=b) (x:=x) ω,d2];(try simp only[hti]);(first|done|rfl|simp only[BM,PI])),aH ω,trivial⟩,trivial,ω,(by show a.length-(x+1)<a.length-x;omega)⟩⟩)|skip⟩
instance ae5(l:ByteArray)(a b:P2)(r:Rq):DenI Tryz.prog 30 [.agg [.v (.int .i64 1),.v (.string l),.sl 8 [vecC a,vecC b],.v (.bool r.a),lmc r.l,.v (.bool r.b),lmc r.m]] True (.tup [.c (.sl 8 [vecC a,vecC b]),.bool true]):=⟨λ_=>by
 have h:=(ku ⟨1,l,[a,b],r⟩).den (by show _<=1000000;simp);simp only[aA]at h
 exact h⟩
instance aeV(l:ByteArray)(a m b:P2)(r:Rq):DenI Tryz.prog 30 [.agg [.v (.int .i64 2),.v (.string l),.sl 8 [vecC a,vecC m,vecC b],.v (.bool r.a),lmc r.l,.v (.bool r.b),lmc r.m]] True (.tup [.c (.sl 8 [vecC a,vecC b]),.bool true]):=⟨λ_=>by
 have h:=(ku ⟨2,l,[a,m,b],r⟩).den (by show _<=1000000;simp);simp only[aA]at h
 exact h⟩
instance aeD(l:ByteArray)(a:P2)(q:Rat):DenI Tryz.prog 30 [.agg [.v (.int .i64 3),.v (.string l),.sl 8 [vecC a],zs q.num,zl q.num,zs q.den,zl q.den]] True (.tup [.c (.sl 8 []),.bool false]):=⟨λ_=>by
 have h:=(ku ⟨3,l,[a],iR q⟩).den (by show _<=1000000;simp);simp only[aA]at h
 exact h⟩
instance Za(l:ByteArray)(a m b:P2)(r:Rq):DenI Tryz.prog 95 [.agg [.v (.int .i64 2),.v (.string l),.sl 8 [vecC a,vecC m,vecC b],.v (.bool r.a),lmc r.l,.v (.bool r.b),lmc r.m]] (aF a/\aF m/\aF b) (.bool (decide (fZ a m b=0))):=⟨λhp=>by
 obtain⟨g1,g2,g3⟩:=hp
 all_goals refine den_of (τ:=tab) fJ aQ Tryz.func95 rfl ζ ζ ζ ?_
 all_goals(repeat'((try(conv=>whnf));first
  |refine zao ?_ (λ_=>?_) (λ_=>?_)|refine zas ζ ?_|(with_reducible first|apply zaj|apply zai|refine EP ?_)|apply zaq))
 all_goals(try apply zar)
 all_goals(try simp only[aW]at *)
 all_goals first
  |exact bE (decide_eq_true ξ).symm|exact bE (decide_eq_false ξ).symm|exact⟨aP g1.1 ψ,aP g1.2 ψ,aP g2.1 ψ,aP g2.2 ψ,aP g3.1 ψ,aP g3.2 ψ⟩⟩
instance af6(l1 l2:ByteArray)(a m b c n d:P2)(r1 r2:Rq):DenI Tryz.prog 126 [.agg [.v (.int .i64 2),.v (.string l1),.sl 8 [vecC a,vecC m,vecC b],.v (.bool r1.a),lmc r1.l,.v (.bool r1.b),lmc r1.m],.agg [.v (.int .i64 2),.v (.string l2),.sl 8 [vecC c,vecC n,vecC d],.v (.bool r2.a),lmc r2.l,.v (.bool r2.b),lmc r2.m]] (aF c/\aF n/\aF d/\aF m) (.bool (uD c n d m)):=⟨λhp=>by
 obtain⟨g1,g2,g3,g4⟩:=hp
 all_goals refine den_of (τ:=tab) fJ aQ Tryz.func126 rfl ζ ζ ζ ?_
 all_goals(repeat'((try(conv=>whnf));first
  |refine zaa ?_ ?_|refine zao ?_ (λ_=>?_) (λ_=>?_)|(with_reducible first|apply zab|apply zac|refine zad (λ_=>?_) (λ_=>?_))|refine zas ζ ?_|(with_reducible first|apply zaj|apply zai|refine EP ?_)|apply zaq))
 all_goals(try apply zar)
 all_goals(try simp only[aW]at *)
 all_goals first
  |exact zay|(exfalso;omega)|exact bE (Hy (a:=c) (b:=n) (c:=d) (p:=m) ξ)|exact bE (Nh (a:=c) (b:=n) (c:=d) (p:=m) ξ).symm|exact⟨(sK g1 g2 g3).1,(sK g1 g2 g3).2.1,(sK g1 g2 g3).2.2,g1.1,g1.2,g3.1,g3.2,g4.1,g4.2⟩|exact⟨aP g1.1 ψ,aP g1.2 ψ,aP g2.1 ψ,aP g2.2 ψ,aP g3.1 ψ,aP g3.2 ψ⟩|exact⟨aP g4.1 ψ,aP g4.2 ψ⟩⟩
instance ZY(l1 l2:ByteArray)(a b c d:P2)(r1:Rq)(r2:Rq):DenI Tryz.prog 96 [.agg [.v (.int .i64 1),.v (.string l1),.sl 8 [vecC a,vecC b],.v (.bool r1.a),lmc r1.l,.v (.bool r1.b),lmc r1.m],.agg [.v (.int .i64 1),.v (.string l2),.sl 8 [vecC c,vecC d],.v (.bool r2.a),lmc r2.l,.v (.bool r2.b),lmc r2.m]] (aF a/\aF b/\aF c/\aF d) (.bool (aZ ⟨1,l1,[a,b],r1⟩ ⟨1,l2,[c,d],r2⟩)):=⟨λhp=>by
 obtain⟨g1,g2,g3,g4⟩:=hp
 all_goals refine den_of (τ:=tab) fJ aQ Tryz.func96 rfl ζ ζ ζ ?_
 all_goals(repeat'((try(conv=>whnf));first
  |apply zaf|refine zaa ?_ ?_|(with_reducible first|apply zab|apply zac|refine zad (λ_=>?_) (λ_=>?_)|refine zae (λ_=>?_) (λ_=>?_))|refine zat (λ_=>?_) (λ_=>?_)|refine zas ζ ?_|(with_reducible first|apply zaj|apply zai)|apply zaq))
 all_goals(try apply zar)
 all_goals(try simp only[aW]at *)
 all_goals first
  |exact zay|(exfalso;omega)|exact⟨aP g1.1 ψ,aP g1.2 ψ,aP g3.1 ψ,aP g3.2 ψ⟩|exact⟨aP g2.1 ψ,aP g2.2 ψ,aP g4.1 ψ,aP g4.2 ψ⟩|exact⟨aP g1.1 ψ,aP g1.2 ψ,aP g4.1 ψ,aP g4.2 ψ⟩|exact⟨aP g2.1 ψ,aP g2.2 ψ,aP g3.1 ψ,aP g3.2 ψ⟩|trivial|(refine bE ?_;rw[CJ];simp only[uX,Bool.not_eq_false']at *;simp only[pE, *,Bool.and_true,BM,Bool.and_false,PI,EN,Bh,J9,Kr,decide_true,decide_false,if_true,if_false,uj,Bool.not_true,Bool.not_false,beq_self_eq_true];done)⟩
instance aad(l1 l2:ByteArray)(a b c n d:P2)(r1:Rq)(r2:Rq):DenI Tryz.prog 96 [.agg [.v (.int .i64 1),.v (.string l1),.sl 8 [vecC a,vecC b],.v (.bool r1.a),lmc r1.l,.v (.bool r1.b),lmc r1.m],.agg [.v (.int .i64 2),.v (.string l2),.sl 8 [vecC c,vecC n,vecC d],.v (.bool r2.a),lmc r2.l,.v (.bool r2.b),lmc r2.m]] (aF a/\aF b/\aF c/\aF n/\aF d) (.bool (aZ ⟨1,l1,[a,b],r1⟩ ⟨2,l2,[c,n,d],r2⟩)):=⟨λhp=>by
 obtain⟨g1,g2,g3,g4,g5⟩:=hp
 all_goals refine den_of (τ:=tab) fJ aQ Tryz.func96 rfl ζ ζ ζ ?_
 all_goals(repeat'((try(conv=>whnf));first
  |apply zaf|refine zaa ?_ ?_|(with_reducible first|apply zab|apply zac|refine zad (λ_=>?_) (λ_=>?_)|refine zae (λ_=>?_) (λ_=>?_))|refine zat (λ_=>?_) (λ_=>?_)|refine zas ζ ?_|(with_reducible first|apply zaj|apply zai)|apply zaq))
 all_goals(try apply zar)
 all_goals(try simp only[aW]at *)
 all_goals first
  |exact zay|(exfalso;omega)|(refine bE ?_;rw[gY (by show¬((1:Int)=2);decide)];done)⟩
instance Yq(l1 l2:ByteArray)(a b c:P2)(r1:Rq)(q2:Rat):DenI Tryz.prog 96 [.agg [.v (.int .i64 1),.v (.string l1),.sl 8 [vecC a,vecC b],.v (.bool r1.a),lmc r1.l,.v (.bool r1.b),lmc r1.m],.agg [.v (.int .i64 3),.v (.string l2),.sl 8 [vecC c],zs q2.num,zl q2.num,zs q2.den,zl q2.den]] (aF a/\aF b/\aF c/\rz q2<=12) (.bool (aZ ⟨1,l1,[a,b],r1⟩ ⟨3,l2,[c],iR q2⟩)):=⟨λhp=>by
 obtain⟨g1,g2,g3,g4⟩:=hp
 all_goals refine den_of (τ:=tab) fJ aQ Tryz.func96 rfl ζ ζ ζ ?_
 all_goals(repeat'((try(conv=>whnf));first
  |apply zaf|refine zaa ?_ ?_|(with_reducible first|apply zab|apply zac|refine zad (λ_=>?_) (λ_=>?_)|refine zae (λ_=>?_) (λ_=>?_))|refine zat (λ_=>?_) (λ_=>?_)|refine zas ζ ?_|(with_reducible apply zaj)|apply zaq))
 all_goals(try apply zar)
 all_goals(try simp only[aW]at *)
 all_goals first
  |(exfalso;omega)|(refine bE ?_;rw[gY (by show¬((1:Int)=3);decide)];done)⟩
instance YF(l1 l2:ByteArray)(a m b c d:P2)(r1:Rq)(r2:Rq):DenI Tryz.prog 96 [.agg [.v (.int .i64 2),.v (.string l1),.sl 8 [vecC a,vecC m,vecC b],.v (.bool r1.a),lmc r1.l,.v (.bool r1.b),lmc r1.m],.agg [.v (.int .i64 1),.v (.string l2),.sl 8 [vecC c,vecC d],.v (.bool r2.a),lmc r2.l,.v (.bool r2.b),lmc r2.m]] (aF a/\aF m/\aF b/\aF c/\aF d) (.bool (aZ ⟨2,l1,[a,m,b],r1⟩ ⟨1,l2,[c,d],r2⟩)):=⟨λhp=>by
 obtain⟨g1,g2,g3,g4,g5⟩:=hp
 all_goals refine den_of (τ:=tab) fJ aQ Tryz.func96 rfl ζ ζ ζ ?_
 all_goals(repeat'((try(conv=>whnf));first
  |apply zaf|refine zaa ?_ ?_|(with_reducible first|apply zab|apply zac|refine zad (λ_=>?_) (λ_=>?_)|refine zae (λ_=>?_) (λ_=>?_))|refine zat (λ_=>?_) (λ_=>?_)|refine zas ζ ?_|(with_reducible first|apply zaj|apply zai)|apply zaq))
 all_goals(try apply zar)
 all_goals(try simp only[aW]at *)
 all_goals first
  |(exfalso;omega)|(refine bE ?_;rw[gY (by show¬((2:Int)=1);decide)];done)⟩
instance aak(l1 l2:ByteArray)(a m b c n d:P2)(r1:Rq)(r2:Rq):DenI Tryz.prog 96 [.agg [.v (.int .i64 2),.v (.string l1),.sl 8 [vecC a,vecC m,vecC b],.v (.bool r1.a),lmc r1.l,.v (.bool r1.b),lmc r1.m],.agg [.v (.int .i64 2),.v (.string l2),.sl 8 [vecC c,vecC n,vecC d],.v (.bool r2.a),lmc r2.l,.v (.bool r2.b),lmc r2.m]] (aF a/\aF m/\aF b/\aF c/\aF n/\aF d) (.bool (aZ ⟨2,l1,[a,m,b],r1⟩ ⟨2,l2,[c,n,d],r2⟩)):=⟨λhp=>by
 obtain⟨g1,g2,g3,g4,g5,g6⟩:=hp
 all_goals refine den_of (τ:=tab) fJ aQ Tryz.func96 rfl ζ ζ ζ ?_
 all_goals(repeat'((try(conv=>whnf));first
  |apply zaf|refine zaa ?_ ?_|(with_reducible first|apply zab|apply zac|refine zad (λ_=>?_) (λ_=>?_)|refine zae (λ_=>?_) (λ_=>?_))|refine zat (λ_=>?_) (λ_=>?_)|refine zas ζ ?_|(with_reducible first|apply zaj|apply zai)|apply zaq))
 all_goals(try apply zar)
 all_goals(try simp only[aW]at *)
 all_goals first
  |exact zay|(exfalso;omega)|exact⟨aP g1.1 ψ,aP g1.2 ψ,aP g4.1 ψ,aP g4.2 ψ⟩|exact⟨aP g3.1 ψ,aP g3.2 ψ,aP g6.1 ψ,aP g6.2 ψ⟩|exact⟨aP g1.1 ψ,aP g1.2 ψ,aP g6.1 ψ,aP g6.2 ψ⟩|exact⟨aP g3.1 ψ,aP g3.2 ψ,aP g4.1 ψ,aP g4.2 ψ⟩|exact⟨aP g2.1 ψ,aP g2.2 ψ,aP g5.1 ψ,aP g5.2 ψ⟩|exact⟨g1,g2,g3⟩|exact⟨g4,g5,g6⟩|exact⟨g4,g5,g6,g2⟩|exact⟨g1,g2,g3,g5⟩|trivial|(refine bE ?_;rw[LY];simp only[uX,Bool.not_eq_false']at *;simp only[pE, *,Bool.and_true,BM,Bool.and_false,PI,EN,Bh,J9,Kr,decide_true,decide_false,if_true,if_false,uj,Bool.not_true,Bool.not_false,beq_self_eq_true];done)⟩
instance Zw(l1 l2:ByteArray)(a m b c:P2)(r1:Rq)(q2:Rat):DenI Tryz.prog 96 [.agg [.v (.int .i64 2),.v (.string l1),.sl 8 [vecC a,vecC m,vecC b],.v (.bool r1.a),lmc r1.l,.v (.bool r1.b),lmc r1.m],.agg [.v (.int .i64 3),.v (.string l2),.sl 8 [vecC c],zs q2.num,zl q2.num,zs q2.den,zl q2.den]] (aF a/\aF m/\aF b/\aF c/\rz q2<=12) (.bool (aZ ⟨2,l1,[a,m,b],r1⟩ ⟨3,l2,[c],iR q2⟩)):=⟨λhp=>by
 obtain⟨g1,g2,g3,g4,g5⟩:=hp
 all_goals refine den_of (τ:=tab) fJ aQ Tryz.func96 rfl ζ ζ ζ ?_
 all_goals(repeat'((try(conv=>whnf));first
  |apply zaf|refine zaa ?_ ?_|(with_reducible first|apply zab|apply zac|refine zad (λ_=>?_) (λ_=>?_)|refine zae (λ_=>?_) (λ_=>?_))|refine zat (λ_=>?_) (λ_=>?_)|refine zas ζ ?_|(with_reducible apply zaj)|apply zaq))
 all_goals(try apply zar)
 all_goals(try simp only[aW]at *)
 all_goals first
  |(exfalso;omega)|(refine bE ?_;rw[gY (by show¬((2:Int)=3);decide)];done)⟩
instance ZG(l1 l2:ByteArray)(a c d:P2)(q1:Rat)(r2:Rq):DenI Tryz.prog 96 [.agg [.v (.int .i64 3),.v (.string l1),.sl 8 [vecC a],zs q1.num,zl q1.num,zs q1.den,zl q1.den],.agg [.v (.int .i64 1),.v (.string l2),.sl 8 [vecC c,vecC d],.v (.bool r2.a),lmc r2.l,.v (.bool r2.b),lmc r2.m]] (aF a/\aF c/\aF d/\rz q1<=12) (.bool (aZ ⟨3,l1,[a],iR q1⟩ ⟨1,l2,[c,d],r2⟩)):=⟨λhp=>by
 obtain⟨g1,g2,g3,g4⟩:=hp
 all_goals refine den_of (τ:=tab) fJ aQ Tryz.func96 rfl ζ ζ ζ ?_
 all_goals(repeat'((try(conv=>whnf));first
  |apply zaf|refine zaa ?_ ?_|(with_reducible first|apply zab|apply zac|refine zad (λ_=>?_) (λ_=>?_)|refine zae (λ_=>?_) (λ_=>?_))|refine zat (λ_=>?_) (λ_=>?_)|refine zas ζ ?_|(with_reducible apply zaj)|apply zaq))
 all_goals(try apply zar)
 all_goals(try simp only[aW]at *)
 all_goals first
  |exact zay|(exfalso;omega)|(refine bE ?_;rw[gY (by show¬((3:Int)=1);decide)];done)⟩
instance aat(l1 l2:ByteArray)(a c n d:P2)(q1:Rat)(r2:Rq):DenI Tryz.prog 96 [.agg [.v (.int .i64 3),.v (.string l1),.sl 8 [vecC a],zs q1.num,zl q1.num,zs q1.den,zl q1.den],.agg [.v (.int .i64 2),.v (.string l2),.sl 8 [vecC c,vecC n,vecC d],.v (.bool r2.a),lmc r2.l,.v (.bool r2.b),lmc r2.m]] (aF a/\aF c/\aF n/\aF d/\rz q1<=12) (.bool (aZ ⟨3,l1,[a],iR q1⟩ ⟨2,l2,[c,n,d],r2⟩)):=⟨λhp=>by
 obtain⟨g1,g2,g3,g4,g5⟩:=hp
 all_goals refine den_of (τ:=tab) fJ aQ Tryz.func96 rfl ζ ζ ζ ?_
 all_goals(repeat'((try(conv=>whnf));first
  |apply zaf|refine zaa ?_ ?_|(with_reducible first|apply zab|apply zac|refine zad (λ_=>?_) (λ_=>?_)|refine zae (λ_=>?_) (λ_=>?_))|refine zat (λ_=>?_) (λ_=>?_)|refine zas ζ ?_|(with_reducible apply zaj)|apply zaq))
 all_goals(try apply zar)
 all_goals(try simp only[aW]at *)
 all_goals first
  |exact zay|(exfalso;omega)|(refine bE ?_;rw[gY (by show¬((3:Int)=2);decide)];done)⟩
instance ZJ(l1 l2:ByteArray)(a c:P2)(q1:Rat)(q2:Rat):DenI Tryz.prog 96 [.agg [.v (.int .i64 3),.v (.string l1),.sl 8 [vecC a],zs q1.num,zl q1.num,zs q1.den,zl q1.den],.agg [.v (.int .i64 3),.v (.string l2),.sl 8 [vecC c],zs q2.num,zl q2.num,zs q2.den,zl q2.den]] (aF a/\aF c/\rz q1<=12/\rz q2<=12) (.bool (aZ ⟨3,l1,[a],iR q1⟩ ⟨3,l2,[c],iR q2⟩)):=⟨λhp=>by
 obtain⟨g1,g2,g3,g4⟩:=hp
 all_goals refine den_of (τ:=tab) fJ aQ Tryz.func96 rfl ζ ζ ζ ?_
 all_goals(repeat'((try(conv=>whnf));first
  |apply zaf|refine zaa ?_ ?_|(with_reducible first|apply zab|apply zac|refine zad (λ_=>?_) (λ_=>?_)|refine zae (λ_=>?_) (λ_=>?_))|refine zat (λ_=>?_) (λ_=>?_)|refine zas ζ ?_|(with_reducible apply zaj)|apply zaq))
 all_goals(try apply zar)
 all_goals(try simp only[aW]at *)
 all_goals first
  |exact zay|exact⟨aP g1.1 ψ,aP g1.2 ψ,aP g2.1 ψ,aP g2.2 ψ⟩|exact⟨aP g3 ψ,aP g4 ψ⟩|(refine bE ?_;rw[CS];simp only[uX,Bool.not_eq_false']at *;simp only[pE, *,Bool.and_true,BM,Bool.and_false,PI,EN,Bh,J9,Kr,decide_true,decide_false,if_true,if_false,uj,Bool.not_true,Bool.not_false,beq_self_eq_true];done)⟩
instance(priority:=2000) adl(e f:Ent):DenI Tryz.prog 96 [.agg (aK e),.agg (aK f)] (okV e/\okV f) (.bool (aZ e f)):=⟨λ⟨h1,h2⟩=>by
 rcases jI h1 with⟨l1,a,b,r1,rfl,g1,g3,_⟩|⟨l1,a,m,b,r1,rfl,g1,g2,g3,_⟩|⟨l1,a,q1,rfl,g1,_,g7,_⟩<;>rcases jI h2 with⟨l2,c,d,r2,rfl,g4,g6,_⟩|⟨l2,c,n,d,r2,rfl,g4,g5,g6,_⟩|⟨l2,c,q2,rfl,g4,_,g8,_⟩
 .exact(ZY l1 l2 a b c d r1 r2).den ⟨g1,g3,g4,g6⟩
 .exact(aad l1 l2 a b c n d r1 r2).den ⟨g1,g3,g4,g5,g6⟩
 .exact(Yq l1 l2 a b c r1 q2).den ⟨g1,g3,g4,g8⟩
 .exact(YF l1 l2 a m b c d r1 r2).den ⟨g1,g2,g3,g4,g6⟩
 .exact(aak l1 l2 a m b c n d r1 r2).den ⟨g1,g2,g3,g4,g5,g6⟩
 .exact(Zw l1 l2 a m b c r1 q2).den ⟨g1,g2,g3,g4,g8⟩
 .exact(ZG l1 l2 a c d q1 r2).den ⟨g1,g4,g6,g7⟩
 .exact(aat l1 l2 a c n d q1 r2).den ⟨g1,g4,g5,g6,g7⟩
 .exact(ZJ l1 l2 a c q1 q2).den ⟨g1,g4,g7,g8⟩⟩
instance(priority:=2000) aeM(e:Ent):DenI Tryz.prog 95 [.agg (aK e)] (e.kind=2/\okV e) (.bool (uT e)):=⟨λ⟨h0,h1⟩=>by
 rcases jI h1 with⟨l1,a,b,r1,rfl,_⟩|⟨l1,a,m,b,r1,rfl,g1,g2,g3,_⟩|⟨l1,a,q1,rfl,_⟩
 .cases h0
 .exact(Za l1 a m b r1).den ⟨g1,g2,g3⟩
 .cases h0⟩
@[reducible] def bC(b:Bool):List Cell:=[.v (.bool b)]
instance abE(l:List (Ent × Nat)):DenI Tryz.prog 52 [.c (.sl 8 (l.map iP))] (l.length<=12/\∀x∈l,okV x.1) (.c (.sl 1 ((bJ (l.map (·.1))).map bC))):=⟨λhp=>by
 obtain⟨h1,h4⟩:=hp
 all_goals refine den_of (τ:=tab) fJ aQ Tryz.func52 rfl ζ ζ ζ ?_
 all_goals(repeat'((try(conv=>whnf));first
  |refine zal ?_ ?_))
 all_goals(try apply zar)
 all_goals first
  |((conv=>whnf);refine Sw.Loop.inv (α:=Nat) (λx=>[(0,.c (.sl 8 (l.map iP))),(3,.gs 8 l.length),(10,.int .i64 (l.length:Nat)),(11,.int .i64 (x:Nat))]) (λx=>[(8,.grow 4 1 ((uG (l.map (·.1)) x).map bC))]) (λx=>x<=l.length) (λx=>l.length-x) 0 ?_ ?_ ?_ (λx hx=>?_))|skip
 all_goals(repeat'((try(conv=>whnf));first
  |(with_reducible refine zad (λ_=>?_) (λ_=>?_))|refine zah ?_ ?_|apply zaq))
 all_goals(try apply zar)
 all_goals first
  |((conv=>whnf);refine Sw.Loop.inv (α:=Nat) (λk=>[(0,.c (.sl 8 (l.map iP))),(3,.gs 8 l.length),(4,.int .i64 (x:Nat)),(10,.int .i64 (l.length:Nat)),(11,.int .i64 (x:Nat)),(14,.int .i64 (x:Nat)),(15,.int .i64 (k:Nat))]) (λk=>[(8,.grow 4 1 ((uG (l.map (·.1)) x).map bC))]) (λk=>k<=x/\pz (l.map (·.1)) x k=false) (λk=>x-k) 0 ?_ ?_ ?_ (λk hk=>?_))|skip
 all_goals(repeat'((try(conv=>whnf));first
  |refine zaa ?_ ?_|(with_reducible first|apply zab|apply zac|refine zad (λ_=>?_) (λ_=>?_))|refine zat (λ_=>?_) (λ_=>?_)|refine zah ?_ ?_|refine zas ζ ?_|refine zan N0 ?_ ?_|refine zan false ?_ ?_))
 all_goals(try apply zar)
 all_goals(try simp only[aG,dh]at *)
 all_goals first
  |omega|trivial|exact⟨jd _,rfl⟩|((with_reducible show SubB _ _);refine⟨?_,trivial⟩;show some (Bk.grow 4 1 _)=some (Bk.grow 4 1 _);rw[Z4,List.map_replicate,aG])|(have hrl:=rpL (l:=l) (x:=x) ω;omega)|exact⟨BI h4 ω,BI h4 ω⟩|((with_reducible show packA _=_);have hxx:x=l.length:=ω;subst hxx;rw[Qa];rfl)|(have hh:=Xf (l:=l) (x:=x) (k:=k) ω ω hk.2 (by first|exact .inl ξ|exact .inr ξ);(conv=>whnf);exact⟨k+1,⟨⟨rfl,rfl,rfl,rfl,rfl,rfl,aH ω,trivial⟩,⟨rfl,trivial⟩,⟨ω,hh⟩,(by show x-(k+1)<x-k;omega)⟩⟩)|(have hh:=Xl (l:=l) (x:=x) (k:=k) ω ω ξ ξ;(conv=>whnf);exact⟨x+1,⟨⟨rfl,rfl,rfl,aH ω,trivial⟩,⟨(by rw[hh,List.map_set];(first|done|rfl)),trivial⟩,ω,(by show l.length-(x+1)<l.length-x;omega)⟩⟩)|(have hxx:k=x:=ω;subst hxx;have hh:=aag (l:=l) (x:=k) ω hk.2;(conv=>whnf);exact⟨k+1,⟨⟨rfl,rfl,rfl,aH ω,trivial⟩,⟨(by rw[hh];(first|done|rfl)),trivial⟩,ω,(by show l.length-(k+1)<l.length-k;omega)⟩⟩)⟩
instance aex(l:List (Ent × Nat)):DenI Tryz.prog 51 [.c (.sl 8 (l.map iP))] (l.length<=12/\∀x∈l,okV x.1) (.tup [.c (.sl 8 ((mV l).map iP)),.c (.sl 19 ((mO l).map jF))]):=⟨λ⟨h1,h4⟩=>by
 refine den_of (τ:=uO) fU aQ Tryz.func51 rfl ζ ζ ζ ?_
 (conv=>whnf)
 refine Sw.Loop.ghost 4 100 86 8 ?_ rfl rfl rfl ψ;refine Sw.Loop.ghost 5 101 47 19 ?_ rfl rfl rfl ψ;refine Sw.Loop.inv (α:=Nat) (λx=>[(10,.c (.sl 8 (l.map iP))),(11,.int .i64 (l.length:Nat)),(12,.int .i64 (x:Nat)),(4,.gs 100 ((BU l x).map iP).length),(5,.gs 101 ((BX l x).map jF).length)]) (λx=>[(100,.grow 86 8 ((BU l x).map iP)),(101,.grow 47 19 ((BX l x).map jF))]) (λx=>x<=l.length) (λx=>l.length-x) 0 ?_ ?_ ?_ (λx hx=>?_)
 .exact⟨rfl,by simp only[aG];rfl,rfl,rfl,rfl,trivial⟩
 .exact⟨rfl,rfl,trivial⟩
 .exact jd _
 obtain⟨hk1,hk2⟩:=wH l x
 by_cases hxl:x<l.length
 .have g0:=BI h4 hxl;obtain⟨g1,g2,g3⟩:=g0.2;rcases iV (l.getD x N0).1 with hE|⟨a,b,hE⟩
  .haveI ie:DenI Tryz.prog 30 [.agg (aK (l.getD (Int.toNat ((x:Nat):Int)) N0).1)] ((l.getD x N0).1.pts.length<=1000000) (.tup [.c (.sl 8 []),.bool false]):=⟨λhp=>by have:=(ku (l.getD x N0).1).den hp;rw[hE]at this;simpa using this⟩
   all_goals(repeat'((try(conv=>whnf));first
    |refine zaa ?_ ?_|(with_reducible first|apply zab|apply zac|refine zad (λ_=>?_) (λ_=>?_))|refine zat (λ_=>?_) (λ_=>?_)|refine zah ?_ ?_|refine zas ζ ?_|refine zan N0 ?_ ?_|apply zaq))
   all_goals(try apply zar)
   all_goals(try simp only[aG,dh]at *)
   all_goals first
    |omega|exact za5|exact⟨ξ,g0⟩|(have hf:dJ (l.getD x N0).1=5:=(by rw[Aq hE,if_pos ⟨ξ,ξ⟩]);obtain⟨h5,h6⟩:=IW (l:=l) (x:=x) (k:=4) ω hf;(conv=>whnf);exact⟨x+1,⟨⟨rfl,rfl,aH ω,(by(simp only[h5,h6,bH,bK,bV,bI,bF,aG,bn,bG]);(first|done|rfl)),(by(simp only[h5,h6,bH,bK,bV,bI,bF,aG,bn,bG]);(first|done|rfl)),trivial⟩,⟨(by(simp only[h5,h6,bH,bK,bV,bI]);(first|done|rfl)),(by(simp only[h5,h6,bH,bK,bV,bI]);(first|done|rfl)),trivial⟩,ω,(by show l.length-(x+1)<l.length-x;omega)⟩⟩)|(have hf:dJ (l.getD x N0).1=0:=(by rw[Aq hE,if_neg χ]);obtain⟨h5,h6⟩:=NU (l:=l) (x:=x) ω hf;(conv=>whnf);exact⟨x+1,⟨⟨rfl,rfl,aH ω,(by(simp only[h5,h6,bH,bK,bV,bI,bF,aG,bn,bG]);(first|done|rfl)),(by(simp only[h5,h6,bH,bK,bV,bI,bF,aG,bn,bG]);(first|done|rfl)),trivial⟩,⟨(by(simp only[h5,h6,bH,bK,bV,bI]);(first|done|rfl)),(by(simp only[h5,h6,bH,bK,bV,bI]);(first|done|rfl)),trivial⟩,ω,(by show l.length-(x+1)<l.length-x;omega)⟩⟩)
  .haveI ie:DenI Tryz.prog 30 [.agg (aK (l.getD (Int.toNat ((x:Nat):Int)) N0).1)] ((l.getD x N0).1.pts.length<=1000000) (.tup [.c (.sl 8 [vecC a,vecC b]),.bool true]):=⟨λhp=>by have:=(ku (l.getD x N0).1).den hp;rw[hE]at this;simpa using this⟩
   have ha:aF a:=g1 a (dF (by rw[hE];simp));have hb:aF b:=g1 b (dF (by rw[hE];simp))
   all_goals(repeat'((try(conv=>whnf));first
    |refine zaa ?_ ?_|(with_reducible first|apply zab|apply zac|refine zad (λ_=>?_) (λ_=>?_))|refine zat (λ_=>?_) (λ_=>?_)|refine zah ?_ ?_|refine zas ζ ?_|(with_reducible first|apply zaj|apply zai)|refine zan N0 ?_ ?_|apply zaq))
   all_goals(try apply zar)
   all_goals(try simp only[aG,dh]at *)
   all_goals first
    |omega|exact za5|exact⟨ξ,g0⟩|exact⟨aP ha.1 ψ,aP ha.2 ψ,aP hb.1 ψ,aP hb.2 ψ⟩|(have hf:=vM (a:=a) (b:=b) hE ξ;obtain⟨h5,h6⟩:=IW (l:=l) (x:=x) (k:=1) ω hf;(conv=>whnf);exact⟨x+1,⟨⟨rfl,rfl,aH ω,(by(simp only[h5,h6,bH,bK,bV,bI,bF,aG,bn,bG]);(first|done|rfl)),(by(simp only[h5,h6,bH,bK,bV,bI,bF,aG,bn,bG]);(first|done|rfl)),trivial⟩,⟨(by(simp only[h5,h6,bH,bK,bV,bI]);(first|done|rfl)),(by(simp only[h5,h6,bH,bK,bV,bI]);(first|done|rfl)),trivial⟩,ω,(by show l.length-(x+1)<l.length-x;omega)⟩⟩)|(have hf:dJ (l.getD x N0).1=5:=(by rw[lY (a:=a) (b:=b) hE ξ,if_pos ⟨ξ,ξ⟩]);obtain⟨h5,h6⟩:=IW (l:=l) (x:=x) (k:=4) ω hf;(conv=>whnf);exact⟨x+1,⟨⟨rfl,rfl,aH ω,(by(simp only[h5,h6,bH,bK,bV,bI,bF,aG,bn,bG]);(first|done|rfl)),(by(simp only[h5,h6,bH,bK,bV,bI,bF,aG,bn,bG]);(first|done|rfl)),trivial⟩,⟨(by(simp only[h5,h6,bH,bK,bV,bI]);(first|done|rfl)),(by(simp only[h5,h6,bH,bK,bV,bI]);(first|done|rfl)),trivial⟩,ω,(by show l.length-(x+1)<l.length-x;omega)⟩⟩)|(have hf:dJ (l.getD x N0).1=0:=(by rw[lY (a:=a) (b:=b) hE ξ,if_neg χ]);obtain⟨h5,h6⟩:=NU (l:=l) (x:=x) ω hf;(conv=>whnf);exact⟨x+1,⟨⟨rfl,rfl,aH ω,(by(simp only[h5,h6,bH,bK,bV,bI,bF,aG,bn,bG]);(first|done|rfl)),(by(simp only[h5,h6,bH,bK,bV,bI,bF,aG,bn,bG]);(first|done|rfl)),trivial⟩,⟨(by(simp only[h5,h6,bH,bK,bV,bI]);(first|done|rfl)),(by(simp only[h5,h6,bH,bK,bV,bI]);(first|done|rfl)),trivial⟩,ω,(by show l.length-(x+1)<l.length-x;omega)⟩⟩)
 .have hxx:x=l.length:=ω
  subst hxx
  all_goals(repeat'((try(conv=>whnf));first
   |refine zaa ?_ ?_|(with_reducible first|apply zab|apply zac|refine zad (λ_=>?_) (λ_=>?_))|refine zat (λ_=>?_) (λ_=>?_)|refine zah ?_ ?_|refine zas ζ ?_|refine zan N0 ?_ ?_|apply zaq))
  all_goals(try apply zar)
  all_goals first
   |(exfalso;omega)|exact za3|((with_reducible show packA _=_);rw[Ac,Ah];rfl)⟩
end Go.Proofs.YtmniihkenijjpaaGreatDoor
