/-
  Rules of the abstract run, plain laws, and what functions answer, for the law RepairJoins.
  Conditions: none.
-/
import Derived.Test.YtmniihkenijjpaaGreatDoorX18
import Derived.Shelf.LaysM
import Derived.Shelf.Strconv.Itoa1
import Derived.Shelf.Strconv.Itoa2
import Derived.Lib.Walk
import Derived.Lib.ItoaMem
import Derived.Lib.ItoaLen
import Derived.Lib.AppendIntMem
import Derived.WalkKit
import Derived.BigCall
import Derived.BigGuard
import Derived.Shelf.SlicesE.Clone
set_option linter.all false
namespace Go.Proofs.YtmniihkenijjpaaGreatDoor
open Go Go.RowKit Go.Sw Go.Shelf
set_option maxRecDepth 100000
set_option maxHeartbeats 8000000
set_option synthInstance.maxSize 4000
set_option synthInstance.maxHeartbeats 400000
set_option maxHeartbeats 32000000 in
theorem YR(ls:List LayD)(es E1:List Ent)(C1:List Chn)(q:Rat)(hs:smA ls (es.map fK) (nD q)=true)(h1:ls.length≤1000)(h3:es.length≤12)(h5:∀e∈es,uO (fK e))(hcl:C1.length≤1000)
 (kp:Den Tryz.prog 13 [.agg [(.sl 3 (ls.map aS)),.sl 7 (es.map aK)],R q] (.tup [.agg [(.sl 3 (ls.map aS)),.sl 7 (E1.map aK)],.c (.sl 19 (C1.map iF)),.int .i64 0])) (hnd:(bF C1).Nodup) (hbd:∀i∈bF C1,i<es.length) (hln:E1.length+(bF C1).length=es.length)
 (hV:∀e∈E1,okV e) (hE:∀x<C1.length,(C1.getD x C0).kind=1→∀k:Nat,(dR (bF C1) es.length)[k]?=some (C1.getD x C0).ent→k<E1.length∧∃a b,bH (E1.getD k E0)=[a,b]∧(((C1.getD x C0).fin=0∧(C1.getD x C0).dst=some a)∨((C1.getD x C0).fin=1∧(C1.getD x C0).dst=some b))) :
 Den Tryz.prog 7 [.agg [(.sl 3 (ls.map aS)),.sl 7 (es.map aK)],R q] (.bool true):=by
 refine Den.of ⟨by kernel_rfl,λw X vs ho hX hl hR=>?_⟩ rfl
 haveI:WOk Tryz.prog w:=.of ho
 refine enter Tryz.func7 rfl rfl (by rw[hl];rfl) λa hF=>?_
 have hc:=mQ (N:=153) hX hl hR hF;clear hF hR hl hX;refine uY (τ:=mM) eH cO 4 _ (by kernel_rfl) (ahL ls es E1 C1 q hs h1 h3 h5 kp) hc (λe b a w1 hq hc2=>?_) (λx e b a w hx hq hc=>absurd hq.1 hx);clear hc kp hs;replace hc2:=hc2.sub hq.2.1 hq.2.2;clear hq;refine aF (aI ?_);obtain⟨g0,hg0⟩:∃g0,g0=w1.heap.size:=⟨_,rfl⟩
 have hc:=Conc.gh_new (P:=Tryz.prog) (kT:=3) (eT:=4) hc2 (i:=3) rfl;rw[←hg0]at hc;have hF:=hc2.frm;refine wp1 rfl BO ?_;rw[←hg0];replace hF:=hF.put (d:=37) (by decide) (.map (some g0));refine wp1 rfl (jV (v:=.map (some g0)) (hF.ev rfl)) ?_;replace hF:=hF.put (d:=8) (by decide) (.map (some g0));replace hc:=(hc.putAK (t:=37) (u:=.map (some g0)) ⟨by decide,rfl⟩).putAK (t:=8) (u:=.map (some g0)) ⟨by decide,rfl⟩
 replace hc:=Conc.keep [(8,.map (some g0))] hc (λt u h=>by
  simp only[uQ,nH]at h;obtain⟨rfl,rfl⟩:=h
  exact hF.get 8 _ rfl)
 refine ak ?_;clear hF hc2;generalize w1.alloc (Obj.map #[] 0)=w2 at hc ⊢;clear hg0
 letI kp1:Kp:=⟨[(8,.map (some g0))],[]⟩
 replace hc : @Conc kp1 wQ 153 w X _ _ _ _:=hc;replace hc:=hc.subK (e:=[(2,.ptr 2 0),(5,.ptr 5 0),(6,.c (.sl 19 (C1.map iF)))]) (b:=[(2,.var [(.sl 3 (ls.map aS)),.sl 7 (es.map aK)]),(3,.gh (iQ Tryz.prog 3 4 g0 (bF (C1.take 0)))),(5,.var [(.sl 3 (ls.map aS)),.sl 7 (E1.map aK)])]) ⟨rfl,rfl,rfl,trivial⟩ ⟨rfl,rfl,rfl,trivial⟩;refine KJ (λa w1=>Conc 153 w X [(2,.ptr 2 0),(5,.ptr 5 0),(6,.c (.sl 19 (C1.map iF)))] [(2,.var [(.sl 3 (ls.map aS)),.sl 7 (es.map aK)]),(3,.gh (iQ Tryz.prog 3 4 g0 (bF (C1.take C1.length)))),(5,.var [(.sl 3 (ls.map aS)),.sl 7 (E1.map aK)])] a w1) ?_ (λa w1 hc2=>?_)
 ·refine aF (eP (τ:=mM) eH cO _ (QA:=λz e b=>z=.normal∧SubE [(2,.ptr 2 0),(5,.ptr 5 0),(6,.c (.sl 19 (C1.map iF))),(38,.c (.sl 19 (C1.map iF))),(39,.int .i64 (C1.length:Nat)),(40,.int .i64 (0:Nat))] e∧SubB [(2,.var [(.sl 3 (ls.map aS)),.sl 7 (es.map aK)]),(3,.gh (iQ Tryz.prog 3 4 g0 (bF (C1.take 0)))),(5,.var [(.sl 3 (ls.map aS)),.sl 7 (E1.map aK)])] b) (by kernel_rfl) ?_ hc ?_)
  ·clear hc
   (conv=>whnf)
   all_goals(try simp only[aZ,gU]at *)
   all_goals first
    |trivial
  clear hc;rintro z e b a w8 ⟨rfl,he,hb⟩ hc;replace hc:=hc.sub he hb;clear he hb;refine bY (fZ (sJ (λn a w1=>∃x,n=C1.length-x∧x≤C1.length∧Conc 153 w X [(2,.ptr 2 0),(5,.ptr 5 0),(6,.c (.sl 19 (C1.map iF))),(38,.c (.sl 19 (C1.map iF))),(39,.int .i64 (C1.length:Nat)),(40,.int .i64 (x:Nat))] [(2,.var [(.sl 3 (ls.map aS)),.sl 7 (es.map aK)]),(3,.gh (iQ Tryz.prog 3 4 g0 (bF (C1.take x)))),(5,.var [(.sl 3 (ls.map aS)),.sl 7 (E1.map aK)])] a w1) ⟨_,0,rfl,rC _,hc⟩ ?_));clear hc;rintro n a w3 ⟨x,rfl,hx,hc⟩;refine uY (τ:=mM) eH cO 2 _ (QA:=λz e b=>(z=.normal∧x<C1.length∨z=.exit 0∧x=C1.length)∧SubE [(2,.ptr 2 0),(5,.ptr 5 0),(6,.c (.sl 19 (C1.map iF))),(38,.c (.sl 19 (C1.map iF))),(39,.int .i64 (C1.length:Nat)),(40,.int .i64 (x:Nat))] e∧SubB [(2,.var [(.sl 3 (ls.map aS)),.sl 7 (es.map aK)]),(3,.gh (iQ Tryz.prog 3 4 g0 (bF (C1.take x)))),(5,.var [(.sl 3 (ls.map aS)),.sl 7 (E1.map aK)])] b) (by kernel_rfl) ?_ hc (λe b a w4 hq hc2=>?_) (λz e b a w4 hz hq hc2=>?_)
  ·clear hc
   (conv=>whnf)
   all_goals(repeat'((try(conv=>whnf));first
    |(with_reducible refine au (λ_=>?_) (λ_=>?_))))
   all_goals(try simp only[aZ,gU]at *)
   all_goals first
    |((conv=>whnf);exact⟨.inl ⟨rfl,by omega⟩,⟨rfl,rfl,rfl,rfl,rfl,rfl,trivial⟩,⟨rfl,rfl,rfl,trivial⟩⟩)|((conv=>whnf);exact⟨.inr ⟨rfl,by omega⟩,⟨rfl,rfl,rfl,rfl,rfl,rfl,trivial⟩,⟨rfl,rfl,rfl,trivial⟩⟩)
  ·obtain⟨⟨_,hlt⟩|⟨h,_⟩,he,hb⟩:=hq
   rotate_left
   ·cases h
   clear hc;replace hc:=hc2.sub he hb;clear he hb hc2;refine KJ (λa w1=>Conc 153 w X [(2,.ptr 2 0),(5,.ptr 5 0),(6,.c (.sl 19 (C1.map iF))),(38,.c (.sl 19 (C1.map iF))),(39,.int .i64 (C1.length:Nat)),(40,.int .i64 (x:Nat))] [(2,.var [(.sl 3 (ls.map aS)),.sl 7 (es.map aK)]),(3,.gh (iQ Tryz.prog 3 4 g0 (bF (C1.take (x+1))))),(5,.var [(.sl 3 (ls.map aS)),.sl 7 (E1.map aK)])] a w1) ?_ (λa w5 hc=>?_)
   ·have hgt:=Fj hlt;have hgi:=aai hlt hnd hbd;obtain⟨c,hcc⟩:∃c,c=(C1.getD x C0):=⟨_,rfl⟩
    rw[←hcc]at hgt hgi;obtain⟨r0,r1,r2,r3,r4,r5,r6,r7,r8,r9,r10,r11,r12,r13,r14,r15,hch⟩:=abw c;refine fZ (aF (eP (τ:=mM) eH cO _ (QA:=λz e b=>z=.normal∧SubE [(2,.ptr 2 0),(5,.ptr 5 0),(6,.c (.sl 19 (C1.map iF))),(38,.c (.sl 19 (C1.map iF))),(39,.int .i64 (C1.length:Nat)),(40,.int .i64 (x:Nat)),(10,.ptr 10 0)] e∧SubB [(2,.var [(.sl 3 (ls.map aS)),.sl 7 (es.map aK)]),(3,.gh (iQ Tryz.prog 3 4 g0 (bF (C1.take x)))),(5,.var [(.sl 3 (ls.map aS)),.sl 7 (E1.map aK)]),(10,.var [.v (.int .i64 (c.kind:Nat)),.v (.int .i64 (c.ent:Nat)),.v (.int .i64 (c.fin:Nat)),r0,r1,r2,r3,r4,r5,r6,r7,r8,r9,r10,r11,r12,r13,r14,r15])] b) (by kernel_rfl) ?_ hc ?_))
    ·clear hc
     (conv=>whnf)
     all_goals(repeat'((try(conv=>whnf));first
      |refine aU C0 ?_ ?_))
     all_goals(try refine Pr.mk ?_)
     all_goals(try simp only[aZ,gU]at *)
     all_goals(try((with_reducible show SG _ _ _ _);rw[←hcc,hch]))
     all_goals first
      |trivial|omega
    clear hc;rintro z e b a w8 ⟨rfl,he,hb⟩ hc;replace hc:=hc.sub he hb;clear he hb;clear hch;refine bY (aF (eP (τ:=mM) eH cO _ (QA:=λz e b=>z=.normal∧SubE [(2,.ptr 2 0),(5,.ptr 5 0),(6,.c (.sl 19 (C1.map iF))),(38,.c (.sl 19 (C1.map iF))),(39,.int .i64 (C1.length:Nat)),(40,.int .i64 (x:Nat)),(10,.ptr 10 0),(56,.bool (xX c))] e∧SubB [(2,.var [(.sl 3 (ls.map aS)),.sl 7 (es.map aK)]),(3,.gh (iQ Tryz.prog 3 4 g0 (bF (C1.take x)))),(5,.var [(.sl 3 (ls.map aS)),.sl 7 (E1.map aK)]),(10,.var [.v (.int .i64 (c.kind:Nat)),.v (.int .i64 (c.ent:Nat)),.v (.int .i64 (c.fin:Nat)),r0,r1,r2,r3,r4,r5,r6,r7,r8,r9,r10,r11,r12,r13,r14,r15])] b) (by kernel_rfl) ?_ hc ?_))
    ·clear hc
     (conv=>whnf)
     all_goals(repeat'((try(conv=>whnf));first
      |(with_reducible first|refine aQ ?_|refine aP ?_)|(with_reducible refine au (λ_=>?_) (λ_=>?_))))
     all_goals(try simp only[aZ,gU]at *)
     all_goals first
      |((conv=>whnf);exact⟨by first|rfl|trivial,⟨rfl,rfl,rfl,rfl,rfl,rfl,rfl,congrArg (λp=>some (AV.bool p)) (aaJ (c:=c) (by omega)).symm,trivial⟩,⟨rfl,rfl,rfl,rfl,trivial⟩⟩)|((conv=>whnf);exact⟨by first|rfl|trivial,⟨rfl,rfl,rfl,rfl,rfl,rfl,rfl,congrArg (λp=>some (AV.bool p)) (adU (by omega) (by omega)),trivial⟩,⟨rfl,rfl,rfl,rfl,trivial⟩⟩)
    clear hc;rintro z e b a w8 ⟨rfl,he,hb⟩ hc;replace hc:=hc.sub he hb;clear he hb;refine bY (wp_cond_split (hc.getK (t:=56) rfl (by simp)) (λhp=>?_) (λhp=>?_))
    ·rw[if_pos hp]at hgt;obtain⟨hi1,hi2,hi3⟩:=hgi hp;refine aF (aF (aI ?_));refine lQ 12 ?_;refine @kK Tryz.prog _ ⟨[(8,.map (some g0))],[]⟩ mM 153 w X _ _ _ _ (λe b=>SubE [(2,.ptr 2 0),(5,.ptr 5 0),(6,.c (.sl 19 (C1.map iF))),(38,.c (.sl 19 (C1.map iF))),(39,.int .i64 (C1.length:Nat)),(40,.int .i64 (x:Nat)),(10,.ptr 10 0),(68,.bool false)] e∧SubB [(2,.var [(.sl 3 (ls.map aS)),.sl 7 (es.map aK)]),(3,.gh (iQ Tryz.prog 3 4 g0 (bF (C1.take x)))),(5,.var [(.sl 3 (ls.map aS)),.sl 7 (E1.map aK)]),(10,.var [.v (.int .i64 (c.kind:Nat)),.v (.int .i64 (c.ent:Nat)),.v (.int .i64 (c.fin:Nat)),r0,r1,r2,r3,r4,r5,r6,r7,r8,r9,r10,r11,r12,r13,r14,r15])] b) eH (λe b a w8 hq hc3=>?_) _ _ _ _ _ (by kernel_rfl) ?_ hc
     rotate_left
     ·clear hc
      (conv=>whnf)
      all_goals(repeat'((try(conv=>whnf));first
       |(with_reducible first|refine aQ ?_|refine aP ?_)|(with_reducible refine au (λ_=>?_) (λ_=>?_))))
      all_goals(try simp only[aZ,gU]at *)
      all_goals first
       |trivial|((conv=>whnf);exact⟨⟨rfl,rfl,rfl,rfl,rfl,rfl,rfl,congrArg (λp=>some (AV.bool p)) (decide_eq_false (by omega)),trivial⟩,⟨rfl,rfl,rfl,rfl,trivial⟩⟩)
     clear hc;replace hc:=hc3.subK hq.1 hq.2;clear hc3 hq;have hF0:=hc.frmK.cons (hc.getK (t:=68) rfl (by simp));have hF:=hF0.cons (hc.kpK (t:=8) (u:=.map (some g0)) (.head _));refine afe hF0 rfl rfl (bM (hF.ev rfl)) ?_;replace hF:=hF.put (d:=69) (by decide) (.map (some g0))
     replace hc:=Conc.keep [(8,.map (some g0)),(69,.map (some g0))] (hc.putAK (t:=69) (u:=.map (some g0)) ⟨by decide,rfl⟩) (λt u h=>by
      simp only[rF,List.not_mem_nil,or_false,nH]at h;rcases h with⟨rfl,rfl⟩|⟨rfl,rfl⟩
      ·exact hF.get 8 _ rfl
      ·exact hF.get 69 _ rfl)
     replace hc:=hc.subK (e:=[(2,.ptr 2 0),(5,.ptr 5 0),(6,.c (.sl 19 (C1.map iF))),(38,.c (.sl 19 (C1.map iF))),(39,.int .i64 (C1.length:Nat)),(40,.int .i64 (x:Nat)),(10,.ptr 10 0),(68,.bool false)]) (b:=[(2,.var [(.sl 3 (ls.map aS)),.sl 7 (es.map aK)]),(3,.gh (iQ Tryz.prog 3 4 g0 (bF (C1.take x)))),(5,.var [(.sl 3 (ls.map aS)),.sl 7 (E1.map aK)]),(10,.var [.v (.int .i64 (c.kind:Nat)),.v (.int .i64 (c.ent:Nat)),.v (.int .i64 (c.fin:Nat)),r0,r1,r2,r3,r4,r5,r6,r7,r8,r9,r10,r11,r12,r13,r14,r15])]) ⟨rfl,rfl,rfl,rfl,rfl,rfl,rfl,rfl,trivial⟩ ⟨rfl,rfl,rfl,rfl,trivial⟩;clear hF hF0;refine lQ 2 ?_;refine @kK Tryz.prog _ ⟨[(8,.map (some g0)),(69,.map (some g0))],[]⟩ mM 153 w X _ _ _ _ (λe b=>SubE [(2,.ptr 2 0),(5,.ptr 5 0),(6,.c (.sl 19 (C1.map iF))),(38,.c (.sl 19 (C1.map iF))),(39,.int .i64 (C1.length:Nat)),(40,.int .i64 (x:Nat)),(10,.ptr 10 0),(68,.bool false),(71,.int .i64 (c.ent:Nat))] e∧SubB [(2,.var [(.sl 3 (ls.map aS)),.sl 7 (es.map aK)]),(3,.gh (iQ Tryz.prog 3 4 g0 (bF (C1.take x)))),(5,.var [(.sl 3 (ls.map aS)),.sl 7 (E1.map aK)]),(10,.var [.v (.int .i64 (c.kind:Nat)),.v (.int .i64 (c.ent:Nat)),.v (.int .i64 (c.fin:Nat)),r0,r1,r2,r3,r4,r5,r6,r7,r8,r9,r10,r11,r12,r13,r14,r15])] b) eH (λe b a w8 hq hc3=>?_) _ _ _ _ _ (by kernel_rfl) ?_ hc
     rotate_left
     ·clear hc
      (conv=>whnf)
      all_goals(repeat'((try(conv=>whnf));first
       |(with_reducible refine aP ?_)))
      all_goals(try simp only[aZ,gU]at *)
      all_goals first
       |trivial
     clear hc;replace hc:=hc3.subK hq.1 hq.2;clear hc3 hq;have ho2:=hc.gh_ownsK (P:=Tryz.prog) (kT:=3) (eT:=4) (i:=3) rfl;have hF0:=hc.frmK.cons (hc.getK (t:=68) rfl (by simp));have hF:=(hF0.cons (hc.kpK (t:=69) (u:=.map (some g0)) (.tail _ (.head _)))).cons (hc.getK (t:=71) rfl (by simp));refine afe hF0 rfl rfl (yN (hF.ev rfl) (hF.ev rfl) (ho2.look adl PV ab5 (Tryz.zeroValue4 _) (by omega))) ?_;rw[hi2];replace hF:=hF.put (d:=72) (by decide) (.bool false);refine wp1 rfl (xw (p:=false) (u:=.bool true) (v:=.bool false) (r:=.bool false) (hF.ev rfl) (λ_=>rfl) (λ_=>hF.ev rfl) rfl) ?_;replace hF:=(hF.put (d:=73) (by decide) (.bool false))
     replace hc:=hc.putDK (t:=72) (u:=.bool false) (v:=.bool false) ⟨by decide,rfl⟩ (.c (.v _ rfl));replace hc:=hc.putDK (t:=73) (u:=.bool false) (v:=.bool false) ⟨by decide,rfl⟩ (.c (.v _ rfl));refine ak ?_;refine wp_cond_split (hc.getK (t:=73) rfl (by simp)) (λh=>Bool.noConfusion h) (λ_=>fM (bY ?_));clear hF hF0 ho2;have hF:=hc.frmK.cons (hc.kpK (t:=8) (u:=.map (some g0)) (.head _))
     have hz:=Conc.keep [(8,.map (some g0))] hc (λt u h=>by
      simp only[uQ,nH]at h;obtain⟨rfl,rfl⟩:=h
      exact hF.get 8 _ rfl)
     replace hc : @Conc kp1 wQ 153 w X _ _ _ _:=hz;clear hz;clear hF;replace hc:=hc.subK (e:=[(2,.ptr 2 0),(5,.ptr 5 0),(6,.c (.sl 19 (C1.map iF))),(38,.c (.sl 19 (C1.map iF))),(39,.int .i64 (C1.length:Nat)),(40,.int .i64 (x:Nat)),(10,.ptr 10 0)]) (b:=[(2,.var [(.sl 3 (ls.map aS)),.sl 7 (es.map aK)]),(3,.gh (iQ Tryz.prog 3 4 g0 (bF (C1.take x)))),(5,.var [(.sl 3 (ls.map aS)),.sl 7 (E1.map aK)]),(10,.var [.v (.int .i64 (c.kind:Nat)),.v (.int .i64 (c.ent:Nat)),.v (.int .i64 (c.fin:Nat)),r0,r1,r2,r3,r4,r5,r6,r7,r8,r9,r10,r11,r12,r13,r14,r15])]) ⟨rfl,rfl,rfl,rfl,rfl,rfl,rfl,trivial⟩ ⟨rfl,rfl,rfl,rfl,trivial⟩;refine aI ?_;have hF:=hc.frmK.cons (hc.kpK (t:=8) (u:=.map (some g0)) (.head _));refine wp1 rfl (bM (hF.ev rfl)) ?_;replace hF:=hF.put (d:=74) (by decide) (.map (some g0))
     replace hc:=Conc.keep [(8,.map (some g0)),(74,.map (some g0))] (hc.putAK (t:=74) (u:=.map (some g0)) ⟨by decide,rfl⟩) (λt u h=>by
      simp only[rF,List.not_mem_nil,or_false,nH]at h;rcases h with⟨rfl,rfl⟩|⟨rfl,rfl⟩
      ·exact hF.get 8 _ rfl
      ·exact hF.get 74 _ rfl)
     replace hc:=hc.subK (e:=[(2,.ptr 2 0),(5,.ptr 5 0),(6,.c (.sl 19 (C1.map iF))),(38,.c (.sl 19 (C1.map iF))),(39,.int .i64 (C1.length:Nat)),(40,.int .i64 (x:Nat)),(10,.ptr 10 0)]) (b:=[(2,.var [(.sl 3 (ls.map aS)),.sl 7 (es.map aK)]),(3,.gh (iQ Tryz.prog 3 4 g0 (bF (C1.take x)))),(5,.var [(.sl 3 (ls.map aS)),.sl 7 (E1.map aK)]),(10,.var [.v (.int .i64 (c.kind:Nat)),.v (.int .i64 (c.ent:Nat)),.v (.int .i64 (c.fin:Nat)),r0,r1,r2,r3,r4,r5,r6,r7,r8,r9,r10,r11,r12,r13,r14,r15])]) ⟨rfl,rfl,rfl,rfl,rfl,rfl,rfl,trivial⟩ ⟨rfl,rfl,rfl,rfl,trivial⟩;clear hF;refine lQ 2 ?_;refine @kK Tryz.prog _ ⟨[(8,.map (some g0)),(74,.map (some g0))],[]⟩ mM 153 w X _ _ _ _ (λe b=>SubE [(2,.ptr 2 0),(5,.ptr 5 0),(6,.c (.sl 19 (C1.map iF))),(38,.c (.sl 19 (C1.map iF))),(39,.int .i64 (C1.length:Nat)),(40,.int .i64 (x:Nat)),(10,.ptr 10 0),(76,.int .i64 (c.ent:Nat))] e∧SubB [(2,.var [(.sl 3 (ls.map aS)),.sl 7 (es.map aK)]),(3,.gh (iQ Tryz.prog 3 4 g0 (bF (C1.take x)))),(5,.var [(.sl 3 (ls.map aS)),.sl 7 (E1.map aK)]),(10,.var [.v (.int .i64 (c.kind:Nat)),.v (.int .i64 (c.ent:Nat)),.v (.int .i64 (c.fin:Nat)),r0,r1,r2,r3,r4,r5,r6,r7,r8,r9,r10,r11,r12,r13,r14,r15])] b) eH (λe b a w8 hq hc3=>?_) _ _ _ _ _ (by kernel_rfl) ?_ hc
     rotate_left
     ·clear hc
      (conv=>whnf)
      all_goals(try simp only[aZ,gU]at *)
      all_goals first
       |trivial
     clear hc;replace hc:=hc3.subK hq.1 hq.2;clear hc3 hq;have ho2:=hc.gh_ownsK (P:=Tryz.prog) (kT:=3) (eT:=4) (i:=3) rfl;have hF:=(hc.frmK.cons (hc.kpK (t:=74) (u:=.map (some g0)) (.tail _ (.head _)))).cons (hc.getK (t:=76) rfl (by simp));obtain⟨w9,hr9,ho9,ht9⟩:=ho2.put adl PV ab5 (by omega) (x:=c.ent) (by omega);refine aaT rfl (xH (hF.ev rfl) (hF.ev rfl) (hF.ev rfl) hr9) ?_;have hc2:=hc.gh_turnK (i:=3) rfl ho9 ht9;clear hF;have hF:=hc.frmK.cons (hc.kpK (t:=8) (u:=.map (some g0)) (.head _));refine iO (ru (bY ?_));rw[hgt]
     exact(Conc.keep [(8,.map (some g0))] hc2 (λt u h=>by
      simp only[uQ,nH]at h;obtain⟨rfl,rfl⟩:=h
      exact hF.get 8 _ rfl)).subK ⟨rfl,rfl,rfl,rfl,rfl,rfl,trivial⟩ ⟨rfl,rfl,rfl,trivial⟩
    ·rw[if_neg (by rw[hp];decide),gq]at hgt;refine fM (ru (bY ?_));rw[hgt];exact hc.sub ⟨rfl,rfl,rfl,rfl,rfl,rfl,trivial⟩ ⟨rfl,rfl,rfl,trivial⟩
   ·refine eP (τ:=mM) eH cO _ (QA:=λz e b=>z=.normal∧SubE [(2,.ptr 2 0),(5,.ptr 5 0),(6,.c (.sl 19 (C1.map iF))),(38,.c (.sl 19 (C1.map iF))),(39,.int .i64 (C1.length:Nat)),(40,.int .i64 ((x+1):Nat))] e∧SubB [(2,.var [(.sl 3 (ls.map aS)),.sl 7 (es.map aK)]),(3,.gh (iQ Tryz.prog 3 4 g0 (bF (C1.take (x+1))))),(5,.var [(.sl 3 (ls.map aS)),.sl 7 (E1.map aK)])] b) (by kernel_rfl) ?_ hc ?_
    ·clear hc
     (conv=>whnf)
     all_goals(try simp only[aZ,gU]at *)
     all_goals first
      |((conv=>whnf);exact⟨by first|rfl|trivial,⟨rfl,rfl,rfl,rfl,rfl,bQ (by omega),trivial⟩,⟨rfl,rfl,rfl,trivial⟩⟩)
    clear hc;rintro z e b a w8 ⟨rfl,he,hb⟩ hc;replace hc:=hc.sub he hb;clear he hb;exact bY ⟨_,(show C1.length-(x+1)<C1.length-x by omega),x+1,rfl,by omega,hc⟩
  ·obtain⟨⟨h,_⟩|⟨rfl,rfl⟩,he,hb⟩:=hq
   ·exact absurd h hz
   ·exact qP (Bz (bY ((hc2.sub he hb).sub ⟨rfl,rfl,rfl,trivial⟩ ⟨rfl,rfl,rfl,trivial⟩)))
 clear hc;have hc:=hc2;clear hc2;rw[Jl]at hc;refine aF (aF (aI ?_));refine lQ 6 ?_;refine @kK Tryz.prog _ ⟨[(8,.map (some g0))],[]⟩ mM 153 w X _ _ _ _ (λe b=>SubE [(2,.ptr 2 0),(5,.ptr 5 0),(6,.c (.sl 19 (C1.map iF))),(80,.int .i64 (E1.length:Nat)),(83,.int .i64 (es.length:Nat))] e∧SubB [(2,.var [(.sl 3 (ls.map aS)),.sl 7 (es.map aK)]),(3,.gh (iQ Tryz.prog 3 4 g0 (bF C1))),(5,.var [(.sl 3 (ls.map aS)),.sl 7 (E1.map aK)])] b) eH (λe b a w8 hq hc3=>?_) _ _ _ _ _ (by kernel_rfl) ?_ hc
 rotate_left
 ·clear hc
  (conv=>whnf)
  all_goals(try simp only[aZ,gU]at *)
  all_goals first
   |trivial
 clear hc;replace hc:=hc3.subK hq.1 hq.2;clear hc3 hq;have hF:=hc.frmK.cons (hc.kpK (t:=8) (u:=.map (some g0)) (.head _));refine wp1 rfl (bM (hF.ev rfl)) ?_;replace hF:=hF.put (d:=84) (by decide) (.map (some g0))
 replace hc:=Conc.keep [(8,.map (some g0)),(84,.map (some g0))] (hc.putAK (t:=84) (u:=.map (some g0)) ⟨by decide,rfl⟩) (λt u h=>by
  simp only[rF,List.not_mem_nil,or_false,nH]at h;rcases h with⟨rfl,rfl⟩|⟨rfl,rfl⟩
  ·exact hF.get 8 _ rfl
  ·exact hF.get 84 _ rfl)
 replace hc:=hc.subK (e:=[(2,.ptr 2 0),(5,.ptr 5 0),(6,.c (.sl 19 (C1.map iF))),(80,.int .i64 (E1.length:Nat)),(83,.int .i64 (es.length:Nat))]) (b:=[(2,.var [(.sl 3 (ls.map aS)),.sl 7 (es.map aK)]),(3,.gh (iQ Tryz.prog 3 4 g0 (bF C1))),(5,.var [(.sl 3 (ls.map aS)),.sl 7 (E1.map aK)])]) ⟨rfl,rfl,rfl,rfl,rfl,trivial⟩ ⟨rfl,rfl,rfl,trivial⟩;clear hF;have ho2:=hc.gh_ownsK (P:=Tryz.prog) (kT:=3) (eT:=4) (i:=3) rfl;have hF:=hc.frmK.cons (hc.kpK (t:=84) (u:=.map (some g0)) (.tail _ (.head _)));refine wp1 rfl (Y6 (hF.ev rfl) (ho2.len PV hnd _)) ?_;replace hc:=hc.putDK (t:=85) (u:=.int .i64 ((bF C1).length:Nat)) (v:=.int .i64 ((bF C1).length:Nat)) ⟨by decide,rfl⟩ (.c (.v _ rfl));clear hF ho2;refine lQ 2 ?_;refine @kK Tryz.prog _ ⟨[(8,.map (some g0)),(84,.map (some g0))],[]⟩ mM 153 w X _ _ _ _ (λe b=>SubE [(2,.ptr 2 0),(5,.ptr 5 0),(6,.c (.sl 19 (C1.map iF))),(87,.bool false)] e∧SubB [(2,.var [(.sl 3 (ls.map aS)),.sl 7 (es.map aK)]),(3,.gh (iQ Tryz.prog 3 4 g0 (bF C1))),(5,.var [(.sl 3 (ls.map aS)),.sl 7 (E1.map aK)])] b) eH (λe b a w8 hq hc3=>?_) _ _ _ _ _ (by kernel_rfl) ?_ hc
 rotate_left
 ·clear hc
  (conv=>whnf)
  all_goals first
   |((conv=>whnf);exact⟨⟨rfl,rfl,rfl,congrArg (λp=>some (AV.bool p)) (adI hln h3),trivial⟩,⟨rfl,rfl,rfl,trivial⟩⟩)
 clear hc;replace hc:=hc3.subK hq.1 hq.2;clear hc3 hq;refine ak ?_;have hF:=hc.frmK.cons (hc.kpK (t:=8) (u:=.map (some g0)) (.head _))
 have hz:=Conc.keep [(8,.map (some g0))] hc (λt u h=>by
  simp only[uQ,nH]at h;obtain⟨rfl,rfl⟩:=h
  exact hF.get 8 _ rfl)
 replace hc : @Conc kp1 wQ 153 w X _ _ _ _:=hz;clear hz;clear hF;refine wp_cond_split (hc.getK (t:=87) rfl (by simp)) (λh=>Bool.noConfusion h) (λ_=>fM (bY ?_));refine aF (eP (τ:=mM) eH cO _ (QA:=λz e b=>z=.normal∧SubE [(2,.ptr 2 0),(5,.ptr 5 0),(6,.c (.sl 19 (C1.map iF))),(11,.c (.v (.slice none 0 0)))] e∧SubB [(2,.var [(.sl 3 (ls.map aS)),.sl 7 (es.map aK)]),(3,.gh (iQ Tryz.prog 3 4 g0 (bF C1))),(5,.var [(.sl 3 (ls.map aS)),.sl 7 (E1.map aK)])] b) (by kernel_rfl) ?_ hc ?_)
 ·clear hc
  (conv=>whnf)
  all_goals(try simp only[aZ,gU]at *)
  all_goals first
   |trivial
 clear hc;rintro z e b a w8 ⟨rfl,he,hb⟩ hc;replace hc:=hc.sub he hb;clear he hb;refine bY (KJ (λa w1=>Conc 153 w X [(2,.ptr 2 0),(5,.ptr 5 0),(6,.c (.sl 19 (C1.map iF))),(11,.gs 1011 (dR (bF C1) es.length).length)] [(2,.var [(.sl 3 (ls.map aS)),.sl 7 (es.map aK)]),(3,.gh (iQ Tryz.prog 3 4 g0 (bF C1))),(5,.var [(.sl 3 (ls.map aS)),.sl 7 (E1.map aK)]),(1011,.grow 3 1 ((dR (bF C1) es.length).map nI))] a w1) ?_ (λa w1 hc2=>?_))
 ·refine aF (eP (τ:=mM) eH cO _ (QA:=λz e b=>z=.normal∧SubE [(2,.ptr 2 0),(5,.ptr 5 0),(6,.c (.sl 19 (C1.map iF))),(11,.c (.v (.slice none 0 0))),(90,.int .i64 (es.length:Nat)),(91,.int .i64 0)] e∧SubB [(2,.var [(.sl 3 (ls.map aS)),.sl 7 (es.map aK)]),(3,.gh (iQ Tryz.prog 3 4 g0 (bF C1))),(5,.var [(.sl 3 (ls.map aS)),.sl 7 (E1.map aK)])] b) (by kernel_rfl) ?_ hc ?_)
  ·clear hc
   (conv=>whnf)
   all_goals(try simp only[aZ,gU]at *)
   all_goals first
    |trivial
  clear hc;rintro z e b a w8 ⟨rfl,he,hb⟩ hc;replace hc:=hc.sub he hb;clear he hb;replace hc:=hc.ghost (t:=11) (i:=1011) (T:=3) (s:=1) rfl rfl rfl (by decide) rfl;replace hc:=hc.subK (e:=[(2,.ptr 2 0),(5,.ptr 5 0),(6,.c (.sl 19 (C1.map iF))),(11,.gs 1011 (dR (bF C1) 0).length),(90,.int .i64 (es.length:Nat)),(91,.int .i64 (0:Nat))]) (b:=[(2,.var [(.sl 3 (ls.map aS)),.sl 7 (es.map aK)]),(3,.gh (iQ Tryz.prog 3 4 g0 (bF C1))),(5,.var [(.sl 3 (ls.map aS)),.sl 7 (E1.map aK)]),(1011,.grow 3 1 ((dR (bF C1) 0).map nI))]) ⟨rfl,rfl,rfl,rfl,rfl,rfl,trivial⟩ ⟨rfl,rfl,rfl,rfl,trivial⟩;refine bY (fZ (sJ (λn a w1=>∃x,n=es.length-x∧x≤es.length∧Conc 153 w X [(2,.ptr 2 0),(5,.ptr 5 0),(6,.c (.sl 19 (C1.map iF))),(11,.gs 1011 (dR (bF C1) x).length),(90,.int .i64 (es.length:Nat)),(91,.int .i64 (x:Nat))] [(2,.var [(.sl 3 (ls.map aS)),.sl 7 (es.map aK)]),(3,.gh (iQ Tryz.prog 3 4 g0 (bF C1))),(5,.var [(.sl 3 (ls.map aS)),.sl 7 (E1.map aK)]),(1011,.grow 3 1 ((dR (bF C1) x).map nI))] a w1) ⟨_,0,rfl,rC _,hc⟩ ?_));clear hc;rintro n a w3 ⟨x,rfl,hx,hc⟩;refine uY (τ:=mM) eH cO 2 _ (QA:=λz e b=>(z=.normal∧x<es.length∨z=.exit 2∧x=es.length)∧SubE [(2,.ptr 2 0),(5,.ptr 5 0),(6,.c (.sl 19 (C1.map iF))),(11,.gs 1011 (dR (bF C1) x).length),(90,.int .i64 (es.length:Nat)),(91,.int .i64 (x:Nat))] e∧SubB [(2,.var [(.sl 3 (ls.map aS)),.sl 7 (es.map aK)]),(3,.gh (iQ Tryz.prog 3 4 g0 (bF C1))),(5,.var [(.sl 3 (ls.map aS)),.sl 7 (E1.map aK)]),(1011,.grow 3 1 ((dR (bF C1) x).map nI))] b) (by kernel_rfl) ?_ hc (λe b a w4 hq hc2=>?_) (λz e b a w4 hz hq hc2=>?_)
  ·clear hc
   (conv=>whnf)
   all_goals(repeat'((try(conv=>whnf));first
    |(with_reducible refine au (λ_=>?_) (λ_=>?_))))
   all_goals(try simp only[aZ,gU]at *)
   all_goals first
    |((conv=>whnf);exact⟨.inl ⟨rfl,by omega⟩,⟨rfl,rfl,rfl,rfl,rfl,rfl,trivial⟩,⟨rfl,rfl,rfl,rfl,trivial⟩⟩)|((conv=>whnf);exact⟨.inr ⟨rfl,by omega⟩,⟨rfl,rfl,rfl,rfl,rfl,rfl,trivial⟩,⟨rfl,rfl,rfl,rfl,trivial⟩⟩)
  ·obtain⟨⟨_,hlt⟩|⟨h,_⟩,he,hb⟩:=hq
   rotate_left
   ·cases h
   clear hc;replace hc:=hc2.sub he hb;clear he hb hc2;refine KJ (λa w1=>Conc 153 w X [(2,.ptr 2 0),(5,.ptr 5 0),(6,.c (.sl 19 (C1.map iF))),(11,.gs 1011 (dR (bF C1) (x+1)).length),(90,.int .i64 (es.length:Nat)),(91,.int .i64 (x:Nat))] [(2,.var [(.sl 3 (ls.map aS)),.sl 7 (es.map aK)]),(3,.gh (iQ Tryz.prog 3 4 g0 (bF C1))),(5,.var [(.sl 3 (ls.map aS)),.sl 7 (E1.map aK)]),(1011,.grow 3 1 ((dR (bF C1) (x+1)).map nI))] a w1) ?_ (λa w5 hc=>?_)
   ·refine fZ (aF (eP (τ:=mM) eH cO _ (QA:=λz e b=>z=.normal∧SubE [(2,.ptr 2 0),(5,.ptr 5 0),(6,.c (.sl 19 (C1.map iF))),(11,.gs 1011 (dR (bF C1) x).length),(90,.int .i64 (es.length:Nat)),(91,.int .i64 (x:Nat)),(12,.int .i64 (x:Nat))] e∧SubB [(2,.var [(.sl 3 (ls.map aS)),.sl 7 (es.map aK)]),(3,.gh (iQ Tryz.prog 3 4 g0 (bF C1))),(5,.var [(.sl 3 (ls.map aS)),.sl 7 (E1.map aK)]),(1011,.grow 3 1 ((dR (bF C1) x).map nI))] b) (by kernel_rfl) ?_ hc ?_))
    ·clear hc
     (conv=>whnf)
     all_goals(try simp only[aZ,gU]at *)
     all_goals first
      |trivial
    clear hc;rintro z e b a w8 ⟨rfl,he,hb⟩ hc;replace hc:=hc.sub he hb;clear he hb;refine bY (aF (aI ?_));have hF:=hc.frmK.cons (hc.kpK (t:=8) (u:=.map (some g0)) (.head _));refine wp1 rfl (bM (hF.ev rfl)) ?_;replace hF:=hF.put (d:=94) (by decide) (.map (some g0))
    replace hc:=Conc.keep [(8,.map (some g0)),(94,.map (some g0))] (hc.putAK (t:=94) (u:=.map (some g0)) ⟨by decide,rfl⟩) (λt u h=>by
     simp only[rF,List.not_mem_nil,or_false,nH]at h;rcases h with⟨rfl,rfl⟩|⟨rfl,rfl⟩
     ·exact hF.get 8 _ rfl
     ·exact hF.get 94 _ rfl)
    replace hc:=hc.subK (e:=[(2,.ptr 2 0),(5,.ptr 5 0),(6,.c (.sl 19 (C1.map iF))),(11,.gs 1011 (dR (bF C1) x).length),(90,.int .i64 (es.length:Nat)),(91,.int .i64 (x:Nat)),(12,.int .i64 (x:Nat))]) (b:=[(2,.var [(.sl 3 (ls.map aS)),.sl 7 (es.map aK)]),(3,.gh (iQ Tryz.prog 3 4 g0 (bF C1))),(5,.var [(.sl 3 (ls.map aS)),.sl 7 (E1.map aK)]),(1011,.grow 3 1 ((dR (bF C1) x).map nI))]) ⟨rfl,rfl,rfl,rfl,rfl,rfl,rfl,trivial⟩ ⟨rfl,rfl,rfl,rfl,trivial⟩;clear hF;refine lQ 1 ?_;refine @kK Tryz.prog _ ⟨[(8,.map (some g0)),(94,.map (some g0))],[]⟩ mM 153 w X _ _ _ _ (λe b=>SubE [(2,.ptr 2 0),(5,.ptr 5 0),(6,.c (.sl 19 (C1.map iF))),(11,.gs 1011 (dR (bF C1) x).length),(90,.int .i64 (es.length:Nat)),(91,.int .i64 (x:Nat)),(12,.int .i64 (x:Nat)),(95,.int .i64 (x:Nat))] e∧SubB [(2,.var [(.sl 3 (ls.map aS)),.sl 7 (es.map aK)]),(3,.gh (iQ Tryz.prog 3 4 g0 (bF C1))),(5,.var [(.sl 3 (ls.map aS)),.sl 7 (E1.map aK)]),(1011,.grow 3 1 ((dR (bF C1) x).map nI))] b) eH (λe b a w8 hq hc3=>?_) _ _ _ _ _ (by kernel_rfl) ?_ hc
    rotate_left
    ·clear hc
     (conv=>whnf)
     all_goals(try simp only[aZ,gU]at *)
     all_goals first
      |trivial
    clear hc;replace hc:=hc3.subK hq.1 hq.2;clear hc3 hq;have ho2:=hc.gh_ownsK (P:=Tryz.prog) (kT:=3) (eT:=4) (i:=3) rfl;have hF:=(hc.frmK.cons (hc.kpK (t:=94) (u:=.map (some g0)) (.tail _ (.head _)))).cons (hc.getK (t:=95) rfl (by simp));refine wp1 rfl (yN (hF.ev rfl) (hF.ev rfl) (ho2.look adl PV ab5 (Tryz.zeroValue4 _) (by omega))) ?_;replace hc:=hc.putDK (t:=96) (u:=.bool ((bF C1).contains x)) (v:=.bool ((bF C1).contains x)) ⟨by decide,rfl⟩ (.c (.v _ rfl));clear hF ho2;refine lQ 1 ?_;refine @kK Tryz.prog _ ⟨[(8,.map (some g0)),(94,.map (some g0))],[]⟩ mM 153 w X _ _ _ _ (λe b=>SubE [(2,.ptr 2 0),(5,.ptr 5 0),(6,.c (.sl 19 (C1.map iF))),(11,.gs 1011 (dR (bF C1) x).length),(90,.int .i64 (es.length:Nat)),(91,.int .i64 (x:Nat)),(12,.int .i64 (x:Nat)),(97,.bool (!((bF C1).contains x)))] e∧SubB [(2,.var [(.sl 3 (ls.map aS)),.sl 7 (es.map aK)]),(3,.gh (iQ Tryz.prog 3 4 g0 (bF C1))),(5,.var [(.sl 3 (ls.map aS)),.sl 7 (E1.map aK)]),(1011,.grow 3 1 ((dR (bF C1) x).map nI))] b) eH (λe b a w8 hq hc3=>?_) _ _ _ _ _ (by kernel_rfl) ?_ hc
    rotate_left
    ·clear hc
     (conv=>whnf)
     all_goals(try simp only[aZ,gU]at *)
     all_goals first
      |trivial
    clear hc;replace hc:=hc3.subK hq.1 hq.2;clear hc3 hq;refine ak ?_;have hF:=hc.frmK.cons (hc.kpK (t:=8) (u:=.map (some g0)) (.head _))
    have hz:=Conc.keep [(8,.map (some g0))] hc (λt u h=>by
     simp only[uQ,nH]at h;obtain⟨rfl,rfl⟩:=h
     exact hF.get 8 _ rfl)
    replace hc : @Conc kp1 wQ 153 w X _ _ _ _:=hz;clear hz;clear hF;refine eP (τ:=mM) eH cO _ (QA:=λz e b=>z=.normal∧SubE [(2,.ptr 2 0),(5,.ptr 5 0),(6,.c (.sl 19 (C1.map iF))),(11,.gs 1011 (dR (bF C1) (x+1)).length),(90,.int .i64 (es.length:Nat)),(91,.int .i64 (x:Nat))] e∧SubB [(2,.var [(.sl 3 (ls.map aS)),.sl 7 (es.map aK)]),(3,.gh (iQ Tryz.prog 3 4 g0 (bF C1))),(5,.var [(.sl 3 (ls.map aS)),.sl 7 (E1.map aK)]),(1011,.grow 3 1 ((dR (bF C1) (x+1)).map nI))] b) (by kernel_rfl) ?_ hc ?_
    ·clear hc;have hnx:=Lm (bF C1) x
     (conv=>whnf)
     all_goals(repeat'((try(conv=>whnf));first
      |refine OnB.mk (λ_=>?_) (λ_=>?_)|refine bI ?_ ?_))
     all_goals(try refine Pr.mk ?_)
     all_goals(try simp only[aZ,gU]at *)
     all_goals first
      |(have hm:=ahO (by assumption);(conv=>whnf);exact⟨by first|rfl|trivial,⟨rfl,rfl,rfl,(by(simp only[hm,gG,gY,iY,gq,iy,aZ,iR,jB]);(first|done|rfl)),rfl,rfl,trivial⟩,⟨rfl,rfl,rfl,(by(simp only[hm,gG,gY,iY,gq,iy,aZ,iR,jB]);(first|done|rfl)),trivial⟩⟩)|(have hm:=ahd (by assumption);(conv=>whnf);exact⟨by first|rfl|trivial,⟨rfl,rfl,rfl,(by(simp only[hm,gG,gY,iY,gq,iy,aZ,iR,jB]);(first|done|rfl)),rfl,rfl,trivial⟩,⟨rfl,rfl,rfl,(by(simp only[hm,gG,gY,iY,gq,iy,aZ,iR,jB]);(first|done|rfl)),trivial⟩⟩)|(have hq:=Lm (bF C1) x;simp only[iy,aZ,iR,jB];omega)
    clear hc;rintro z e b a w8 ⟨rfl,he,hb⟩ hc;replace hc:=hc.sub he hb;clear he hb;exact ru (bY hc)
   ·refine eP (τ:=mM) eH cO _ (QA:=λz e b=>z=.normal∧SubE [(2,.ptr 2 0),(5,.ptr 5 0),(6,.c (.sl 19 (C1.map iF))),(11,.gs 1011 (dR (bF C1) (x+1)).length),(90,.int .i64 (es.length:Nat)),(91,.int .i64 ((x+1):Nat))] e∧SubB [(2,.var [(.sl 3 (ls.map aS)),.sl 7 (es.map aK)]),(3,.gh (iQ Tryz.prog 3 4 g0 (bF C1))),(5,.var [(.sl 3 (ls.map aS)),.sl 7 (E1.map aK)]),(1011,.grow 3 1 ((dR (bF C1) (x+1)).map nI))] b) (by kernel_rfl) ?_ hc ?_
    ·clear hc
     (conv=>whnf)
     all_goals(try simp only[aZ,gU]at *)
     all_goals first
      |((conv=>whnf);exact⟨by first|rfl|trivial,⟨rfl,rfl,rfl,rfl,rfl,bQ (by omega),trivial⟩,⟨rfl,rfl,rfl,rfl,trivial⟩⟩)
    clear hc;rintro z e b a w8 ⟨rfl,he,hb⟩ hc;replace hc:=hc.sub he hb;clear he hb;exact bY ⟨_,(show es.length-(x+1)<es.length-x by omega),x+1,rfl,by omega,hc⟩
  ·obtain⟨⟨h,_⟩|⟨rfl,rfl⟩,he,hb⟩:=hq
   ·exact absurd h hz
   ·exact qP (Bz (bY ((hc2.sub he hb).sub ⟨rfl,rfl,rfl,rfl,trivial⟩ ⟨rfl,rfl,rfl,rfl,trivial⟩)))
 clear hc;have hc:=hc2;clear hc2;have hz : @Conc kp0 wQ 153 w X [(2,.ptr 2 0),(5,.ptr 5 0),(6,.c (.sl 19 (C1.map iF))),(11,.gs 1011 (dR (bF C1) es.length).length)] [(5,.var [(.sl 3 (ls.map aS)),.sl 7 (E1.map aK)]),(1011,.grow 3 1 ((dR (bF C1) es.length).map nI))] a w1:=(Conc.keep [] hc (λt u h=>by cases h)).subK ⟨rfl,rfl,rfl,rfl,trivial⟩ ⟨rfl,rfl,trivial⟩;clear hc;clear kp1;exact eP (τ:=mM) eH cO _ (by kernel_rfl) (ag7 es E1 C1 hcl h3 hV hE) hz (λx e b a w' hx hc'=>um eH hx hc')
end Go.Proofs.YtmniihkenijjpaaGreatDoor
