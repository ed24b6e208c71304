/-
  Rules of the abstract run, plain laws, and what functions answer, for the law TopRepaired.
  Conditions: none.
-/
import Derived.Test.YtmniihkenijjpaaGreatDoorW9
import Derived.Test.YtmniihkenijjpaaGreatDoorChecked
import Derived.Maps.Own
import Derived.Maps.Views
set_option linter.all false
set_option maxHeartbeats 16000000
namespace Go.Proofs.YtmniihkenijjpaaGreatDoor
open Go Go.RowKit Go.Sw
set_option maxRecDepth 20000
namespace TfQ
theorem one154:aa4 Tryz.prog 154=true:=ζ
theorem size154:(Tryz.prog.info? 154).map (λi=>i.size)=some 1:=ζ
theorem sl26:sliceOf Tryz.prog 26=some (154,1):=ζ
theorem sls26:(sliceOf Tryz.prog 26).isSome=true:=ζ
theorem und152:Tryz.prog.underlying 152=some (TypeDesc.int .u64):=ζ
theorem und154:Tryz.prog.underlying 154=some (TypeDesc.int .u32):=ζ
theorem unds152:(Tryz.prog.underlying 152).isSome=true:=ζ
theorem unds154:(Tryz.prog.underlying 154).isSome=true:=ζ
end TfQ
theorem lK{w0 w:World}{X:List Nat}{So:List Bx}{R:List Value}{g_U c_U:Nat}{U:List Nat}(hX:∀m∈X,m<w0.heap.size)(hS:St w0 w ((g_U,154,(us U++R).toArray)::So))(k m:Nat){v_v:Value}{v:List Nat}(h_v:UL w (g_U ::(bl So++X)) v_v (v))(bw:Nat)(hU:U.length<=1000000000000)(hkm:k+m<=U.length)(hvm:v.length<=m)(hb_U:Lb U)(hb_v:Lb v)(hbw:bw<1000000000):
 Calls Tryz.prog 232 #[(.slice (some ⟨g_U,k,none⟩) m c_U),v_v,(.int .u64 ((bw:Nat):Int))] w (Ret λr w'=>∃o:List Nat,∃cy:Nat,r=.bool (decide (0<cy))/\o.length=U.length/\Lb o/\o.take k=U.take k/\o.drop (k+m)=U.drop (k+m)/\val (win o k m)+val v*bw=val (win U k m)+1000000000^m*cy/\St w0 w' ((g_U,154,(us o++R).toArray)::So)/\Ext w (g_U ::(bl So++X)) w' (g_U ::(bl So++X))):=by
 refine enter (N:=62) (fn:=Tryz.f232) (vs:=[(.slice (some ⟨g_U,k,none⟩) m c_U),v_v,(.int .u64 ((bw:Nat):Int))]) Tryz.func232 rfl rfl rfl ?_;intro fa hF;obtain⟨A_v,_,c_v,rfl,rfl,hu_v⟩:=h_v;have hl_v:=hu_v.len;have hc_v:=hu_v.cap;replace hF:Frm 62 fa [(0,(.slice (some ⟨g_U,k,none⟩) (m) (c_U))),(1,(.slice (A_v) (v.length) (c_v))),(2,(.int .u64 (((bw:Nat):Int))))]:=hF;refine aak ?_;refine aal ?_;refine pr hF (pa rfl <| PR.nil) ?_;clear hF fa;intro fa hF;refine aj ?_;refine aak ?_;refine aal ?_;refine pr hF (pa rfl <| pa rfl <| PR.nil) ?_;clear hF fa;intro fa hF;refine aj ?_;refine aak ?_;refine aak ?_;refine aal ?_;refine pr hF (pm rfl <| pg (λ_ hF=>gy TfQ.sls26 (hF.ev rfl)) <| pm rfl <| PR.nil) ?_;clear hF fa;intro fa hF;refine aj ?_;refine aa8 ?_;refine oW (λmu fa w'=>∃o:List Nat,∃cr:Nat,∃br:Nat,∃i:Nat,Frm 62 fa [(0,(.slice (some ⟨g_U,k,none⟩) (m) (c_U))),(1,(.slice (A_v) (v.length) (c_v))),(2,(.int .u64 (((bw:Nat):Int)))),(6,(.bool (false))),(14,(.int .i64 (((m:Nat):Int)))),(7,(.int .u64 (((cr:Nat):Int)))),(8,(.int .u64 (((br:Nat):Int)))),(15,(.int .i64 (((i:Nat):Int))))]/\St w0 w' ([(g_U,154,(us (o)++R).toArray)]++So)/\Ext w (g_U ::(bl So++X)) w' (g_U ::(bl So++X))/\(i<=m)/\(o.length=U.length)/\(Lb o)/\(o.take k=U.take k)/\(o.drop (k+i)=U.drop (k+i))/\(cr<1000000000)/\(br<=1)/\(val (win o k i)+val (v.take i)*bw=val (win U k i)+1000000000^i*(cr+br))/\m-i=mu) ?_ ?_
 ·
  exact⟨_,U,0,0,0,(hF.all ⟨rfl,rfl,rfl,rfl,rfl,(aJ rfl ω),(aJ rfl ω),(aJ rfl ω),trivial⟩),hS,Ext.refl _ _,ω,(rfl),(hb_U),(rfl),(rfl),ω,ω,(by simp[win_zero,val]),rfl⟩
 clear hF fa;intro n0_ fa w' hI;clear hS;obtain⟨o,cr,br,i,hF,hS,E2,hi,ho,hbo,htk,hdr,hcr,hbr,hv,rfl⟩:=hI
 rename World=>w1
 have hox:=uz hdr;have hoi:=hbo.getD (k+i);have hvi:=hb_v.getD i;have hgn:=λh=>getD_none (l:=v) (k:=i) h
 have hmul:v.getD i 0*bw<=999999999*999999999:=Eb ω ω;refine aak ?_;refine aal ?_;refine pr hF (pg (λ_ hF=>ab5 (hF.ev rfl) (hF.ev rfl)) <| PR.nil) ?_;clear hF fa;intro fa hF;refine aj ?_;refine aak ?_;refine dS hF rfl (λhc3=>?_) (λhc3=>?_)
 ·
  have hc3p:((i:Nat):Int)<((m:Nat):Int):=by first|simpa using hc3|exact aW hc3|exact aX hc3
  refine aa1 ?_;refine aaG ?_;refine aak ?_;refine aa8 ?_;refine aak ?_;refine aal ?_;refine pr hF (pm rfl <| pa rfl <| PR.nil) ?_;clear hF fa;intro fa hF;refine aj ?_;refine aak ?_;refine aal ?_;refine pr hF (pm rfl <| pa rfl <| PR.nil) ?_;clear hF fa;intro fa hF;refine aj ?_;refine aak ?_;refine aak ?_;refine aal ?_;refine pr hF (pm rfl <| pm rfl <| pg (λ_ hF=>gy TfQ.sls26 (hF.ev rfl)) <| pg (λ_ hF=>ab5 (hF.ev rfl) (hF.ev rfl)) <| PR.nil) ?_;clear hF fa;intro fa hF;refine aj ?_;refine dS hF rfl (λhc4=>?_) (λhc4=>?_)
  ·
   have hc4p:((i:Nat):Int)<((v.length:Nat):Int):=by first|simpa using hc4|exact aW hc4|exact aX hc4
   refine aal ?_;refine pr hF (pm rfl <| pm rfl <| pm rfl <| PR.nil) ?_;clear hF fa;intro fa hF;obtain⟨ad5,hA6,hq7⟩:=(hu_v.ext E2).cl.at_ (gI (l:=v) (i:=i) ω);refine pr hF (pg (λ_ hF=>gK (j:=i) TfQ.sl26 (hF.ev rfl) hA6 (hF.ev rfl) ω ω) <| pg (λ_ hF=>aaT TfQ.one154 (hF.ev rfl) hq7) <| pg (λ_ hF=>aaJ TfQ.unds154 TfQ.und152 (hF.ev rfl) (iI ω)) <| pm rfl <| pg (λ_ hF=>adp (hF.ev rfl) (hF.ev rfl) iG) <| pg (λ_ hF=>aaC (hF.ev rfl) (hF.ev rfl) iG) <| pa rfl <| PR.nil) ?_;clear hF fa;intro fa hF;replace hF:Frm 62 fa [(0,(.slice (some ⟨g_U,k,none⟩) (m) (c_U))),(1,(.slice (A_v) (v.length) (c_v))),(2,(.int .u64 (((bw:Nat):Int)))),(6,(.bool (false))),(14,(.int .i64 (((m:Nat):Int)))),(7,(.int .u64 (((cr:Nat):Int)))),(8,(.int .u64 (((br:Nat):Int)))),(15,(.int .i64 (((i:Nat):Int)))),(16,(.bool (decide (((i:Nat):Int)<((m:Nat):Int))))),(9,(.int .i64 (((i:Nat):Int)))),(10,(.int .u64 (((cr:Nat):Int)+(((v.getD (i) 0:Nat):Int)*((bw:Nat):Int))))),(22,(.bool (decide (((i:Nat):Int)<((v.length:Nat):Int)))))]:=(hF.all ⟨rfl,rfl,rfl,rfl,rfl,rfl,rfl,rfl,rfl,rfl,rfl,rfl,trivial⟩)
   refine aj ?_;refine aak ?_;refine aal ?_;refine pr hF (pm rfl <| pg (λ_ hF=>adf (hF.ev rfl) (hF.ev rfl) ω (yu (x:=cr+((v.getD (i) 0)*bw)) (y:=1000000000) ω ω ω)) <| pa rfl <| PR.nil) ?_;clear hF fa;intro fa hF;refine aj ?_;refine aak ?_;refine aal ?_;refine pr hF (pm rfl <| pg (λ_ hF=>ad2 (hF.ev rfl) (hF.ev rfl) ω (BQ (x:=cr+((v.getD (i) 0)*bw)) (y:=1000000000) ω ω)) <| pm rfl <| pg (λ_ hF=>aaC (hF.ev rfl) (hF.ev rfl) iG) <| pa rfl <| PR.nil) ?_;clear hF fa;intro fa hF;refine aj ?_;refine aak ?_;refine aal ?_;refine pr hF (pa rfl <| PR.nil) ?_;clear hF fa;intro fa hF;refine aj ?_;refine aak ?_;refine aal ?_;refine pr hF (pm rfl <| pm rfl <| pg (λ_ hF=>fQ (o:=k) (j:=i) TfQ.sl26 (hF.ev rfl) (hF.ev rfl) ω ω) <| pg (λ_ hF=>dG TfQ.one154 (hF.ev rfl) (hS.get 0 rfl) (kZ (by first|omega|(simp;omega)))) <| pg (λ_ hF=>aaJ TfQ.unds154 TfQ.und152 (hF.ev rfl) (iI ω)) <| pa rfl <| PR.nil) ?_;clear hF fa;intro fa hF;refine aj ?_;refine aak ?_;refine aak ?_;refine aal ?_;refine pr hF (pm rfl <| pm rfl <| pg (λ_ hF=>ab5 (hF.ev rfl) (hF.ev rfl)) <| PR.nil) ?_;clear hF fa;intro fa hF;replace hF:Frm 62 fa [(0,(.slice (some ⟨g_U,k,none⟩) (m) (c_U))),(1,(.slice (A_v) (v.length) (c_v))),(2,(.int .u64 (((bw:Nat):Int)))),(6,(.bool (false))),(14,(.int .i64 (((m:Nat):Int)))),(7,(.int .u64 ((((cr+((v.getD (i) 0)*bw))/1000000000:Nat):Int)))),(8,(.int .u64 (0))),(15,(.int .i64 (((i:Nat):Int)))),(16,(.bool (decide (((i:Nat):Int)<((m:Nat):Int))))),(9,(.int .i64 (((i:Nat):Int)))),(10,(.int .u64 (((cr:Nat):Int)+(((v.getD (i) 0:Nat):Int)*((bw:Nat):Int))))),(22,(.bool (decide (((i:Nat):Int)<((v.length:Nat):Int))))),(11,(.int .u64 ((((cr+((v.getD (i) 0)*bw))%1000000000:Nat):Int)+((br:Nat):Int)))),(12,(.int .u64 (((o.getD (k+i) 0:Nat):Int)))),(45,(.bool (decide (((o.getD (k+i) 0:Nat):Int)<((((cr+((v.getD (i) 0)*bw))%1000000000:Nat):Int)+((br:Nat):Int))))))]:=(hF.all ⟨rfl,rfl,rfl,rfl,rfl,rfl,rfl,rfl,rfl,rfl,rfl,rfl,rfl,rfl,rfl,trivial⟩)
   refine aj ?_;refine dS hF rfl (λhc8=>?_) (λhc8=>?_)
   ·
    have hc8p:((o.getD (k+i) 0:Nat):Int)<((((cr+((v.getD (i) 0)*bw))%1000000000:Nat):Int)+((br:Nat):Int)):=by first|simpa using hc8|exact aW hc8|exact aX hc8
    refine aal ?_;refine pr hF (pm rfl <| pg (λ_ hF=>aaC (hF.ev rfl) (hF.ev rfl) iG) <| pa rfl <| pa rfl <| PR.nil) ?_;clear hF fa;intro fa hF;refine aj ?_;refine aal ?_;refine pr hF (pm rfl <| pm rfl <| pm rfl <| pm rfl <| pg (λ_ hF=>aaQ (hF.ev rfl) (hF.ev rfl) iG) <| pg (λ_ hF=>aaJ TfQ.unds152 TfQ.und154 (hF.ev rfl) xk) <| pg (λ_ hF=>fQ (o:=k) (j:=i) TfQ.sl26 (hF.ev rfl) (hF.ev rfl) ω ω) <| PR.nil) ?_;clear hF fa;intro fa hF;refine st rfl (dP (vs:=#[.int .u32 ((((o.getD (k+i) 0)+1000000000)-(((cr+((v.getD (i) 0)*bw))%1000000000)+br):Nat):Int)]) (v:=.int .u32 ((((o.getD (k+i) 0)+1000000000)-(((cr+((v.getD (i) 0)*bw))%1000000000)+br):Nat):Int)) (X:=(g_U ::(bl So++X))) hF hS 0 rfl η rfl (dV rfl ω) rfl TfQ.size154 rfl (jc (by first|omega|(simp;omega))) ?_);intro w9 hS E10;rw[eG (by first|omega|(simp;omega))]at hS;refine dX ?_;refine acV ?_;refine aaG ?_;refine aal ?_;refine pr hF (pg (λ_ hF=>aaC (hF.ev rfl) (hF.ev rfl) eH) <| pm rfl <| PR.nil) ?_;clear hF fa;intro fa hF;refine dX ?_;refine aaG ?_;exact⟨_,ω,o.set (k+i) (((o.getD (k+i) 0)+1000000000)-(((cr+((v.getD (i) 0)*bw))%1000000000)+br)),(cr+((v.getD (i) 0)*bw))/1000000000,1,(i+1),(hF.all ⟨rfl,rfl,rfl,rfl,rfl,(aJ rfl ω),(aJ rfl ω),(aJ rfl ω),trivial⟩),hS,(E2.trans E10),ω,κ,(dN hbo ω),(by rw[ig];exact htk),(by rw[set_drop];exact fH hdr),ω,ω,(nC (x:=o.getD (k+i) 0) ω hv hox.symm (by first|rfl|exact zaw) ω),rfl⟩
   have hc8p:¬(((o.getD (k+i) 0:Nat):Int)<((((cr+((v.getD (i) 0)*bw))%1000000000:Nat):Int)+((br:Nat):Int))):=by first|simpa using hc8|exact aW hc8|exact aX hc8
   refine aa1 ?_;refine aaG ?_;refine aal ?_;refine pr hF (pm rfl <| pm rfl <| pm rfl <| pm rfl <| pg (λ_ hF=>aaQ (hF.ev rfl) (hF.ev rfl) iG) <| pg (λ_ hF=>aaJ TfQ.unds152 TfQ.und154 (hF.ev rfl) xk) <| pg (λ_ hF=>fQ (o:=k) (j:=i) TfQ.sl26 (hF.ev rfl) (hF.ev rfl) ω ω) <| PR.nil) ?_;clear hF fa;intro fa hF;refine st rfl (dP (vs:=#[.int .u32 (((o.getD (k+i) 0)-(((cr+((v.getD (i) 0)*bw))%1000000000)+br):Nat):Int)]) (v:=.int .u32 (((o.getD (k+i) 0)-(((cr+((v.getD (i) 0)*bw))%1000000000)+br):Nat):Int)) (X:=(g_U ::(bl So++X))) hF hS 0 rfl η rfl (dV rfl ω) rfl TfQ.size154 rfl (jc (by first|omega|(simp;omega))) ?_);intro yE hS E12;rw[eG (by first|omega|(simp;omega))]at hS;refine dX ?_;refine acV ?_;refine aaG ?_;refine aal ?_;refine pr hF (pg (λ_ hF=>aaC (hF.ev rfl) (hF.ev rfl) eH) <| pm rfl <| PR.nil) ?_;clear hF fa;intro fa hF;refine dX ?_;refine aaG ?_;exact⟨_,ω,o.set (k+i) ((o.getD (k+i) 0)-(((cr+((v.getD (i) 0)*bw))%1000000000)+br)),(cr+((v.getD (i) 0)*bw))/1000000000,0,(i+1),(hF.all ⟨rfl,rfl,rfl,rfl,rfl,(aJ rfl ω),(aJ rfl ω),(aJ rfl ω),trivial⟩),hS,(E2.trans E12),ω,κ,(dN hbo ω),(by rw[ig];exact htk),(by rw[set_drop];exact fH hdr),ω,ω,(nC (x:=o.getD (k+i) 0) ω hv hox.symm (by first|rfl|exact zaw) ω),rfl⟩
  have hc4p:¬(((i:Nat):Int)<((v.length:Nat):Int)):=by first|simpa using hc4|exact aW hc4|exact aX hc4
  refine aa1 ?_;refine aaG ?_;refine aak ?_;refine aal ?_;refine pr hF (pm rfl <| pg (λ_ hF=>adf (hF.ev rfl) (hF.ev rfl) ω (yu (x:=cr) (y:=1000000000) ω ω ω)) <| pa rfl <| PR.nil) ?_;clear hF fa;intro fa hF;refine aj ?_;refine aak ?_;refine aal ?_;refine pr hF (pm rfl <| pg (λ_ hF=>ad2 (hF.ev rfl) (hF.ev rfl) ω (BQ (x:=cr) (y:=1000000000) ω ω)) <| pm rfl <| pg (λ_ hF=>aaC (hF.ev rfl) (hF.ev rfl) iG) <| pa rfl <| PR.nil) ?_;clear hF fa;intro fa hF;replace hF:Frm 62 fa [(0,(.slice (some ⟨g_U,k,none⟩) (m) (c_U))),(1,(.slice (A_v) (v.length) (c_v))),(2,(.int .u64 (((bw:Nat):Int)))),(6,(.bool (false))),(14,(.int .i64 (((m:Nat):Int)))),(7,(.int .u64 (((cr/1000000000:Nat):Int)))),(8,(.int .u64 (((br:Nat):Int)))),(15,(.int .i64 (((i:Nat):Int)))),(16,(.bool (decide (((i:Nat):Int)<((m:Nat):Int))))),(9,(.int .i64 (((i:Nat):Int)))),(10,(.int .u64 (((cr:Nat):Int)))),(22,(.bool (decide (((i:Nat):Int)<((v.length:Nat):Int))))),(11,(.int .u64 (((cr%1000000000:Nat):Int)+((br:Nat):Int))))]:=(hF.all ⟨rfl,rfl,rfl,rfl,rfl,rfl,rfl,rfl,rfl,rfl,rfl,rfl,rfl,trivial⟩)
  refine aj ?_;refine aak ?_;refine aal ?_;refine pr hF (pa rfl <| PR.nil) ?_;clear hF fa;intro fa hF;refine aj ?_;refine aak ?_;refine aal ?_;refine pr hF (pm rfl <| pm rfl <| pg (λ_ hF=>fQ (o:=k) (j:=i) TfQ.sl26 (hF.ev rfl) (hF.ev rfl) ω ω) <| pg (λ_ hF=>dG TfQ.one154 (hF.ev rfl) (hS.get 0 rfl) (kZ (by first|omega|(simp;omega)))) <| pg (λ_ hF=>aaJ TfQ.unds154 TfQ.und152 (hF.ev rfl) (iI ω)) <| pa rfl <| PR.nil) ?_;clear hF fa;intro fa hF;refine aj ?_;refine aak ?_;refine aak ?_;refine aal ?_;refine pr hF (pm rfl <| pm rfl <| pg (λ_ hF=>ab5 (hF.ev rfl) (hF.ev rfl)) <| PR.nil) ?_;clear hF fa;intro fa hF;refine aj ?_;refine dS hF rfl (λhc13=>?_) (λhc13=>?_)
  ·
   have hc13p:((o.getD (k+i) 0:Nat):Int)<(((cr%1000000000:Nat):Int)+((br:Nat):Int)):=by first|simpa using hc13|exact aW hc13|exact aX hc13
   refine aal ?_;refine pr hF (pm rfl <| pg (λ_ hF=>aaC (hF.ev rfl) (hF.ev rfl) iG) <| pa rfl <| pa rfl <| PR.nil) ?_;clear hF fa;intro fa hF;refine aj ?_;refine aal ?_;refine pr hF (pm rfl <| pm rfl <| pm rfl <| pm rfl <| pg (λ_ hF=>aaQ (hF.ev rfl) (hF.ev rfl) iG) <| pg (λ_ hF=>aaJ TfQ.unds152 TfQ.und154 (hF.ev rfl) xk) <| pg (λ_ hF=>fQ (o:=k) (j:=i) TfQ.sl26 (hF.ev rfl) (hF.ev rfl) ω ω) <| PR.nil) ?_;clear hF fa;intro fa hF;refine st rfl (dP (vs:=#[.int .u32 ((((o.getD (k+i) 0)+1000000000)-((cr%1000000000)+br):Nat):Int)]) (v:=.int .u32 ((((o.getD (k+i) 0)+1000000000)-((cr%1000000000)+br):Nat):Int)) (X:=(g_U ::(bl So++X))) hF hS 0 rfl η rfl (dV rfl ω) rfl TfQ.size154 rfl (jc (by first|omega|(simp;omega))) ?_);intro w14 hS E15;rw[eG (by first|omega|(simp;omega))]at hS;replace hF:Frm 62 fa [(0,(.slice (some ⟨g_U,k,none⟩) (m) (c_U))),(1,(.slice (A_v) (v.length) (c_v))),(2,(.int .u64 (((bw:Nat):Int)))),(6,(.bool (false))),(14,(.int .i64 (((m:Nat):Int)))),(7,(.int .u64 (((cr/1000000000:Nat):Int)))),(8,(.int .u64 (1))),(15,(.int .i64 (((i:Nat):Int)))),(16,(.bool (decide (((i:Nat):Int)<((m:Nat):Int))))),(9,(.int .i64 (((i:Nat):Int)))),(10,(.int .u64 (((cr:Nat):Int)))),(22,(.bool (decide (((i:Nat):Int)<((v.length:Nat):Int))))),(11,(.int .u64 (((cr%1000000000:Nat):Int)+((br:Nat):Int)))),(12,(.int .u64 (((o.getD (k+i) 0:Nat):Int)+1000000000))),(45,(.bool (decide (((o.getD (k+i) 0:Nat):Int)<(((cr%1000000000:Nat):Int)+((br:Nat):Int))))))]:=(hF.all ⟨rfl,rfl,rfl,rfl,rfl,rfl,rfl,rfl,rfl,rfl,rfl,rfl,rfl,rfl,rfl,trivial⟩)
   refine dX ?_;refine acV ?_;refine aaG ?_;refine aal ?_;refine pr hF (pg (λ_ hF=>aaC (hF.ev rfl) (hF.ev rfl) eH) <| pm rfl <| PR.nil) ?_;clear hF fa;intro fa hF;refine dX ?_;refine aaG ?_;exact⟨_,ω,o.set (k+i) (((o.getD (k+i) 0)+1000000000)-((cr%1000000000)+br)),cr/1000000000,1,(i+1),(hF.all ⟨rfl,rfl,rfl,rfl,rfl,(aJ rfl ω),(aJ rfl ω),(aJ rfl ω),trivial⟩),hS,(E2.trans E15),ω,κ,(dN hbo ω),(by rw[ig];exact htk),(by rw[set_drop];exact fH hdr),ω,ω,(nC (x:=o.getD (k+i) 0) ω hv hox.symm (by first|rfl|exact zaw) ω),rfl⟩
  have hc13p:¬(((o.getD (k+i) 0:Nat):Int)<(((cr%1000000000:Nat):Int)+((br:Nat):Int))):=by first|simpa using hc13|exact aW hc13|exact aX hc13
  refine aa1 ?_;refine aaG ?_;refine aal ?_;refine pr hF (pm rfl <| pm rfl <| pm rfl <| pm rfl <| pg (λ_ hF=>aaQ (hF.ev rfl) (hF.ev rfl) iG) <| pg (λ_ hF=>aaJ TfQ.unds152 TfQ.und154 (hF.ev rfl) xk) <| pg (λ_ hF=>fQ (o:=k) (j:=i) TfQ.sl26 (hF.ev rfl) (hF.ev rfl) ω ω) <| PR.nil) ?_;clear hF fa;intro fa hF;refine st rfl (dP (vs:=#[.int .u32 (((o.getD (k+i) 0)-((cr%1000000000)+br):Nat):Int)]) (v:=.int .u32 (((o.getD (k+i) 0)-((cr%1000000000)+br):Nat):Int)) (X:=(g_U ::(bl So++X))) hF hS 0 rfl η rfl (dV rfl ω) rfl TfQ.size154 rfl (jc (by first|omega|(simp;omega))) ?_);intro w16 hS E17;rw[eG (by first|omega|(simp;omega))]at hS;replace hF:Frm 62 fa [(0,(.slice (some ⟨g_U,k,none⟩) (m) (c_U))),(1,(.slice (A_v) (v.length) (c_v))),(2,(.int .u64 (((bw:Nat):Int)))),(6,(.bool (false))),(14,(.int .i64 (((m:Nat):Int)))),(7,(.int .u64 (((cr/1000000000:Nat):Int)))),(8,(.int .u64 (0))),(15,(.int .i64 (((i:Nat):Int)))),(16,(.bool (decide (((i:Nat):Int)<((m:Nat):Int))))),(9,(.int .i64 (((i:Nat):Int)))),(10,(.int .u64 (((cr:Nat):Int)))),(22,(.bool (decide (((i:Nat):Int)<((v.length:Nat):Int))))),(11,(.int .u64 (((cr%1000000000:Nat):Int)+((br:Nat):Int)))),(12,(.int .u64 (((o.getD (k+i) 0:Nat):Int)))),(45,(.bool (decide (((o.getD (k+i) 0:Nat):Int)<(((cr%1000000000:Nat):Int)+((br:Nat):Int))))))]:=(hF.all ⟨rfl,rfl,rfl,rfl,rfl,rfl,rfl,rfl,rfl,rfl,rfl,rfl,rfl,rfl,rfl,trivial⟩)
  refine dX ?_;refine acV ?_;refine aaG ?_;refine aal ?_;refine pr hF (pg (λ_ hF=>aaC (hF.ev rfl) (hF.ev rfl) eH) <| pm rfl <| PR.nil) ?_;clear hF fa;intro fa hF;refine dX ?_;refine aaG ?_;exact⟨_,ω,o.set (k+i) ((o.getD (k+i) 0)-((cr%1000000000)+br)),cr/1000000000,0,(i+1),(hF.all ⟨rfl,rfl,rfl,rfl,rfl,(aJ rfl ω),(aJ rfl ω),(aJ rfl ω),trivial⟩),hS,(E2.trans E17),ω,κ,(dN hbo ω),(by rw[ig];exact htk),(by rw[set_drop];exact fH hdr),ω,ω,(nC (x:=o.getD (k+i) 0) ω hv hox.symm (by first|rfl|exact zaw) ω),rfl⟩
 have hc3p:¬(((i:Nat):Int)<((m:Nat):Int)):=by first|simpa using hc3|exact aW hc3|exact aX hc3
 refine acr ?_;refine acG ?_;refine acG ?_;refine afl ?_;refine aaG ?_;refine aak ?_;refine aal ?_;refine pr hF (pm rfl <| pg (λ_ hF=>ae7 (hF.ev rfl) (hF.ev rfl)) <| pm rfl <| PR.nil) ?_;clear hF fa;intro fa hF;rcases Bool.eq_false_or_eq_true (decide (((br:Nat):Int)>0))with hg18|hg18
 ·
  replace hF:=hF.cons (t:=58) (v:=.bool true) ((hF.get 58 _ rfl).trans (congrArg Value.bool hg18));have hg18p:((br:Nat):Int)>0:=by simpa using hg18
  refine pr hF (Y5 rfl rfl <| Y5 rfl rfl <| pg (λ_ hF=>qX (hF.ev rfl) (λ_=>hF.ev rfl) (v:=undef) (λh=>by cases h) rfl) <| pa rfl <| PR.nil) ?_;clear hF fa;intro fa hF;refine aj ?_;refine ac6 ?_;refine Qs hF rfl (iD hF rfl) ?_;exact⟨_,rfl,o,(cr+br),(congrArg Value.bool (by symm;rw[decide_eq_true_eq];omega)),(ho),(hbo),(htk),(by rw[show m=i by omega];exact hdr),(by have h1:=hv;rw[aO (l:=v) ω,show i=m by omega]at h1;exact h1),hS,E2⟩
 replace hF:=hF.cons (t:=58) (v:=.bool false) ((hF.get 58 _ rfl).trans (congrArg Value.bool hg18));have hg18p:¬(((br:Nat):Int)>0):=by simpa using hg18
 refine pr hF (YM (λ_ hF=>aaw (hF.ev rfl)) <| YM (λ_ hF=>ae7 (hF.ev rfl) (hF.ev rfl)) <| pg (λ_ hF=>qX (hF.ev rfl) (u:=undef) (λh=>by cases h) (λ_=>hF.ev rfl) rfl) <| pa rfl <| PR.nil) ?_;clear hF fa;intro fa hF;refine aj ?_;refine ac6 ?_;refine Qs hF rfl (iD hF rfl) ?_;exact⟨_,rfl,o,(cr+br),(congrArg Value.bool (by rw[decide_eq_decide];omega)),(ho),(hbo),(htk),(by rw[show m=i by omega];exact hdr),(by have h1:=hv;rw[aO (l:=v) ω,show i=m by omega]at h1;exact h1),hS,E2⟩
theorem lY{w0 w:World}{X:List Nat}{So:List Bx}{R:List Value}{g_U c_U:Nat}{U:List Nat}(hX:∀m∈X,m<w0.heap.size)(hS:St w0 w ((g_U,154,(us U++R).toArray)::So))(k m:Nat){v_v:Value}{v:List Nat}(h_v:UL w (g_U ::(bl So++X)) v_v (v))(hU:U.length<=1000000000000)(hkm:k+m<=U.length)(hvm:v.length<=m)(hb_U:Lb U)(hb_v:Lb v):
 Calls Tryz.prog 233 #[(.slice (some ⟨g_U,k,none⟩) m c_U),v_v] w (Ret λr w'=>∃o:List Nat,∃cy:Nat,r=.tuple #[]/\o.length=U.length/\Lb o/\o.take k=U.take k/\o.drop (k+m)=U.drop (k+m)/\val (win o k m)+1000000000^m*cy=val (win U k m)+val v/\cy<=1/\St w0 w' ((g_U,154,(us o++R).toArray)::So)/\Ext w (g_U ::(bl So++X)) w' (g_U ::(bl So++X))):=by
 refine enter (N:=37) (fn:=Tryz.f233) (vs:=[(.slice (some ⟨g_U,k,none⟩) m c_U),v_v]) Tryz.func233 rfl rfl rfl ?_;intro fa hF;obtain⟨A_v,_,c_v,rfl,rfl,hu_v⟩:=h_v;have hl_v:=hu_v.len;have hc_v:=hu_v.cap;replace hF:Frm 37 fa [(0,(.slice (some ⟨g_U,k,none⟩) (m) (c_U))),(1,(.slice (A_v) (v.length) (c_v)))]:=hF;refine aak ?_;refine aal ?_;refine pr hF (pa rfl <| PR.nil) ?_;clear hF fa;intro fa hF;refine aj ?_;refine aak ?_;refine aal ?_;refine pr hF (pm rfl <| pg (λ_ hF=>gy TfQ.sls26 (hF.ev rfl)) <| pm rfl <| PR.nil) ?_;clear hF fa;intro fa hF;refine aj ?_;refine aa8 ?_;refine oW (λmu fa w'=>∃o:List Nat,∃cr:Nat,∃i:Nat,Frm 37 fa [(0,(.slice (some ⟨g_U,k,none⟩) (m) (c_U))),(1,(.slice (A_v) (v.length) (c_v))),(8,(.int .i64 (((m:Nat):Int)))),(4,(.int .u32 (((cr:Nat):Int)))),(9,(.int .i64 (((i:Nat):Int))))]/\St w0 w' ([(g_U,154,(us (o)++R).toArray)]++So)/\Ext w (g_U ::(bl So++X)) w' (g_U ::(bl So++X))/\(i<=m)/\(o.length=U.length)/\(Lb o)/\(o.take k=U.take k)/\(o.drop (k+i)=U.drop (k+i))/\(cr<=1)/\(val (win o k i)+1000000000^i*cr=val (win U k i)+val (v.take i))/\m-i=mu) ?_ ?_
 ·
  exact⟨_,U,0,0,(hF.all ⟨rfl,rfl,rfl,(aJ rfl ω),(aJ rfl ω),trivial⟩),hS,Ext.refl _ _,ω,(rfl),(hb_U),(rfl),(rfl),ω,(by simp[win_zero,val]),rfl⟩
 clear hF fa;intro n0_ fa w' hI;clear hS;obtain⟨o,cr,i,hF,hS,E2,hi,ho,hbo,htk,hdr,hcr,hv,rfl⟩:=hI
 rename World=>w1
 have hox:=uz hdr;have hoi:=hbo.getD (k+i);have hvi:=hb_v.getD i;have hgn:=λh=>getD_none (l:=v) (k:=i) h
 refine aak ?_;refine aal ?_;refine pr hF (pg (λ_ hF=>ab5 (hF.ev rfl) (hF.ev rfl)) <| PR.nil) ?_;clear hF fa;intro fa hF;refine aj ?_;refine aak ?_;refine dS hF rfl (λhc3=>?_) (λhc3=>?_)
 ·
  have hc3p:((i:Nat):Int)<((m:Nat):Int):=by first|simpa using hc3|exact aW hc3|exact aX hc3
  refine aa1 ?_;refine aaG ?_;refine aak ?_;refine aa8 ?_;refine aak ?_;refine aal ?_;refine pr hF (pm rfl <| pa rfl <| PR.nil) ?_;clear hF fa;intro fa hF;refine aj ?_;refine aak ?_;refine aal ?_;refine pr hF (pm rfl <| pm rfl <| pg (λ_ hF=>fQ (o:=k) (j:=i) TfQ.sl26 (hF.ev rfl) (hF.ev rfl) ω ω) <| pg (λ_ hF=>dG TfQ.one154 (hF.ev rfl) (hS.get 0 rfl) (kZ (by first|omega|(simp;omega)))) <| pm rfl <| pg (λ_ hF=>aaC (hF.ev rfl) (hF.ev rfl) xk) <| pa rfl <| PR.nil) ?_;clear hF fa;intro fa hF;refine aj ?_;refine aak ?_;refine aak ?_;refine aal ?_;refine pr hF (pm rfl <| pm rfl <| pg (λ_ hF=>gy TfQ.sls26 (hF.ev rfl)) <| pg (λ_ hF=>ab5 (hF.ev rfl) (hF.ev rfl)) <| PR.nil) ?_;clear hF fa;intro fa hF;refine aj ?_;refine dS hF rfl (λhc4=>?_) (λhc4=>?_)
  ·
   have hc4p:((i:Nat):Int)<((v.length:Nat):Int):=by first|simpa using hc4|exact aW hc4|exact aX hc4
   refine aal ?_;refine pr hF (pm rfl <| pm rfl <| pm rfl <| PR.nil) ?_;clear hF fa;intro fa hF;obtain⟨ad5,hA6,hq7⟩:=(hu_v.ext E2).cl.at_ (gI (l:=v) (i:=i) ω);refine pr hF (pg (λ_ hF=>gK (j:=i) TfQ.sl26 (hF.ev rfl) hA6 (hF.ev rfl) ω ω) <| pg (λ_ hF=>aaT TfQ.one154 (hF.ev rfl) hq7) <| pg (λ_ hF=>aaC (hF.ev rfl) (hF.ev rfl) xk) <| pa rfl <| PR.nil) ?_;clear hF fa;intro fa hF;replace hF:Frm 37 fa [(0,(.slice (some ⟨g_U,k,none⟩) (m) (c_U))),(1,(.slice (A_v) (v.length) (c_v))),(8,(.int .i64 (((m:Nat):Int)))),(4,(.int .u32 (((cr:Nat):Int)))),(9,(.int .i64 (((i:Nat):Int)))),(10,(.bool (decide (((i:Nat):Int)<((m:Nat):Int))))),(5,(.int .i64 (((i:Nat):Int)))),(6,(.int .u32 ((((o.getD (k+i) 0:Nat):Int)+((cr:Nat):Int))+((v.getD (i) 0:Nat):Int)))),(21,(.bool (decide (((i:Nat):Int)<((v.length:Nat):Int)))))]:=(hF.all ⟨rfl,rfl,rfl,rfl,rfl,rfl,rfl,rfl,rfl,trivial⟩)
   refine aj ?_;refine aak ?_;refine aal ?_;refine pr hF (pa rfl <| PR.nil) ?_;clear hF fa;intro fa hF;refine aj ?_;refine aak ?_;refine aak ?_;refine aal ?_;refine pr hF (pm rfl <| pg (λ_ hF=>acF (hF.ev rfl) (hF.ev rfl)) <| PR.nil) ?_;clear hF fa;intro fa hF;refine aj ?_;refine dS hF rfl (λhc8=>?_) (λhc8=>?_)
   ·
    have hc8p:((((o.getD (k+i) 0:Nat):Int)+((cr:Nat):Int))+((v.getD (i) 0:Nat):Int))>=1000000000:=by first|simpa using hc8|exact aW hc8|exact aX hc8
    refine aal ?_;refine pr hF (pm rfl <| pg (λ_ hF=>aaQ (hF.ev rfl) (hF.ev rfl) xk) <| pa rfl <| pa rfl <| PR.nil) ?_;clear hF fa;intro fa hF;refine aj ?_;refine aal ?_;refine pr hF (pm rfl <| pm rfl <| pm rfl <| pg (λ_ hF=>fQ (o:=k) (j:=i) TfQ.sl26 (hF.ev rfl) (hF.ev rfl) ω ω) <| PR.nil) ?_;clear hF fa;intro fa hF;refine st rfl (dP (vs:=#[.int .u32 (((((o.getD (k+i) 0)+cr)+(v.getD (i) 0))-1000000000:Nat):Int)]) (v:=.int .u32 (((((o.getD (k+i) 0)+cr)+(v.getD (i) 0))-1000000000:Nat):Int)) (X:=(g_U ::(bl So++X))) hF hS 0 rfl η rfl (dV rfl ω) rfl TfQ.size154 rfl (jc (by first|omega|(simp;omega))) ?_);intro w9 hS E10;rw[eG (by first|omega|(simp;omega))]at hS;refine dX ?_;refine acV ?_;refine aaG ?_;refine aal ?_;refine pr hF (pg (λ_ hF=>aaC (hF.ev rfl) (hF.ev rfl) eH) <| pm rfl <| PR.nil) ?_;clear hF fa;intro fa hF;refine dX ?_;refine aaG ?_;exact⟨_,ω,o.set (k+i) ((((o.getD (k+i) 0)+cr)+(v.getD (i) 0))-1000000000),1,(i+1),(hF.all ⟨rfl,rfl,rfl,(aJ rfl ω),(aJ rfl ω),trivial⟩),hS,(E2.trans E10),ω,κ,(dN hbo ω),(by rw[ig];exact htk),(by rw[set_drop];exact fH hdr),ω,(oz (x:=o.getD (k+i) 0) ω hv hox.symm (by first|omega|exact zaw)),rfl⟩
   have hc8p:¬(((((o.getD (k+i) 0:Nat):Int)+((cr:Nat):Int))+((v.getD (i) 0:Nat):Int))>=1000000000):=by first|simpa using hc8|exact aW hc8|exact aX hc8
   refine aa1 ?_;refine aaG ?_;refine aal ?_;refine pr hF (pm rfl <| pm rfl <| pm rfl <| pg (λ_ hF=>fQ (o:=k) (j:=i) TfQ.sl26 (hF.ev rfl) (hF.ev rfl) ω ω) <| PR.nil) ?_;clear hF fa;intro fa hF;refine st rfl (dP (vs:=#[.int .u32 ((((o.getD (k+i) 0)+cr)+(v.getD (i) 0):Nat):Int)]) (v:=.int .u32 ((((o.getD (k+i) 0)+cr)+(v.getD (i) 0):Nat):Int)) (X:=(g_U ::(bl So++X))) hF hS 0 rfl η rfl (dV rfl ω) rfl TfQ.size154 rfl (jc (by first|omega|(simp;omega))) ?_);intro yE hS E12;rw[eG (by first|omega|(simp;omega))]at hS;refine dX ?_;refine acV ?_;refine aaG ?_;refine aal ?_;refine pr hF (pg (λ_ hF=>aaC (hF.ev rfl) (hF.ev rfl) eH) <| pm rfl <| PR.nil) ?_;clear hF fa;intro fa hF;refine dX ?_;refine aaG ?_;exact⟨_,ω,o.set (k+i) (((o.getD (k+i) 0)+cr)+(v.getD (i) 0)),0,(i+1),(hF.all ⟨rfl,rfl,rfl,(aJ rfl ω),(aJ rfl ω),trivial⟩),hS,(E2.trans E12),ω,κ,(dN hbo ω),(by rw[ig];exact htk),(by rw[set_drop];exact fH hdr),ω,(oz (x:=o.getD (k+i) 0) ω hv hox.symm (by first|omega|exact zaw)),rfl⟩
  have hc4p:¬(((i:Nat):Int)<((v.length:Nat):Int)):=by first|simpa using hc4|exact aW hc4|exact aX hc4
  refine aa1 ?_;refine aaG ?_;refine aak ?_;refine aal ?_;refine pr hF (pa rfl <| PR.nil) ?_;clear hF fa;intro fa hF;refine aj ?_;refine aak ?_;refine aak ?_;refine aal ?_;refine pr hF (pm rfl <| pg (λ_ hF=>acF (hF.ev rfl) (hF.ev rfl)) <| PR.nil) ?_;clear hF fa;intro fa hF;replace hF:Frm 37 fa [(0,(.slice (some ⟨g_U,k,none⟩) (m) (c_U))),(1,(.slice (A_v) (v.length) (c_v))),(8,(.int .i64 (((m:Nat):Int)))),(4,(.int .u32 (0))),(9,(.int .i64 (((i:Nat):Int)))),(10,(.bool (decide (((i:Nat):Int)<((m:Nat):Int))))),(5,(.int .i64 (((i:Nat):Int)))),(6,(.int .u32 (((o.getD (k+i) 0:Nat):Int)+((cr:Nat):Int)))),(21,(.bool (decide (((i:Nat):Int)<((v.length:Nat):Int))))),(29,(.bool (decide ((((o.getD (k+i) 0:Nat):Int)+((cr:Nat):Int))>=1000000000))))]:=(hF.all ⟨rfl,rfl,rfl,rfl,rfl,rfl,rfl,rfl,rfl,rfl,trivial⟩)
  refine aj ?_;refine dS hF rfl (λhc13=>?_) (λhc13=>?_)
  ·
   have hc13p:(((o.getD (k+i) 0:Nat):Int)+((cr:Nat):Int))>=1000000000:=by first|simpa using hc13|exact aW hc13|exact aX hc13
   refine aal ?_;refine pr hF (pm rfl <| pg (λ_ hF=>aaQ (hF.ev rfl) (hF.ev rfl) xk) <| pa rfl <| pa rfl <| PR.nil) ?_;clear hF fa;intro fa hF;refine aj ?_;refine aal ?_;refine pr hF (pm rfl <| pm rfl <| pm rfl <| pg (λ_ hF=>fQ (o:=k) (j:=i) TfQ.sl26 (hF.ev rfl) (hF.ev rfl) ω ω) <| PR.nil) ?_;clear hF fa;intro fa hF;refine st rfl (dP (vs:=#[.int .u32 ((((o.getD (k+i) 0)+cr)-1000000000:Nat):Int)]) (v:=.int .u32 ((((o.getD (k+i) 0)+cr)-1000000000:Nat):Int)) (X:=(g_U ::(bl So++X))) hF hS 0 rfl η rfl (dV rfl ω) rfl TfQ.size154 rfl (jc (by first|omega|(simp;omega))) ?_);intro w14 hS E15;rw[eG (by first|omega|(simp;omega))]at hS;refine dX ?_;refine acV ?_;refine aaG ?_;refine aal ?_;refine pr hF (pg (λ_ hF=>aaC (hF.ev rfl) (hF.ev rfl) eH) <| pm rfl <| PR.nil) ?_;clear hF fa;intro fa hF;refine dX ?_;refine aaG ?_;exact⟨_,ω,o.set (k+i) (((o.getD (k+i) 0)+cr)-1000000000),1,(i+1),(hF.all ⟨rfl,rfl,rfl,(aJ rfl ω),(aJ rfl ω),trivial⟩),hS,(E2.trans E15),ω,κ,(dN hbo ω),(by rw[ig];exact htk),(by rw[set_drop];exact fH hdr),ω,(oz (x:=o.getD (k+i) 0) ω hv hox.symm (by first|omega|exact zaw)),rfl⟩
  have hc13p:¬((((o.getD (k+i) 0:Nat):Int)+((cr:Nat):Int))>=1000000000):=by first|simpa using hc13|exact aW hc13|exact aX hc13
  refine aa1 ?_;refine aaG ?_;refine aal ?_;refine pr hF (pm rfl <| pm rfl <| pm rfl <| pg (λ_ hF=>fQ (o:=k) (j:=i) TfQ.sl26 (hF.ev rfl) (hF.ev rfl) ω ω) <| PR.nil) ?_;clear hF fa;intro fa hF;refine st rfl (dP (vs:=#[.int .u32 (((o.getD (k+i) 0)+cr:Nat):Int)]) (v:=.int .u32 (((o.getD (k+i) 0)+cr:Nat):Int)) (X:=(g_U ::(bl So++X))) hF hS 0 rfl η rfl (dV rfl ω) rfl TfQ.size154 rfl (jc (by first|omega|(simp;omega))) ?_);intro w16 hS E17;rw[eG (by first|omega|(simp;omega))]at hS;refine dX ?_;refine acV ?_;refine aaG ?_;refine aal ?_;refine pr hF (pg (λ_ hF=>aaC (hF.ev rfl) (hF.ev rfl) eH) <| pm rfl <| PR.nil) ?_;clear hF fa;intro fa hF;refine dX ?_;refine aaG ?_;exact⟨_,ω,o.set (k+i) ((o.getD (k+i) 0)+cr),0,(i+1),(hF.all ⟨rfl,rfl,rfl,(aJ rfl ω),(aJ rfl ω),trivial⟩),hS,(E2.trans E17),ω,κ,(dN hbo ω),(by rw[ig];exact htk),(by rw[set_drop];exact fH hdr),ω,(oz (x:=o.getD (k+i) 0) ω hv hox.symm (by first|omega|exact zaw)),rfl⟩
 have hc3p:¬(((i:Nat):Int)<((m:Nat):Int)):=by first|simpa using hc3|exact aW hc3|exact aX hc3
 refine acr ?_;refine acG ?_;refine acG ?_;refine afl ?_;refine Xv hF rfl ?_;exact⟨_,rfl,o,cr,rfl,(ho),(hbo),(htk),(by rw[show m=i by omega];exact hdr),(by have h1:=hv;rw[aO (l:=v) ω,show i=m by omega]at h1;exact h1),(hcr),hS,E2⟩
end Go.Proofs.YtmniihkenijjpaaGreatDoor
namespace Go.Proofs.YtmniihkenijjpaaGreatDoor
open Go Go.RowKit Go.Sw
set_option maxRecDepth 20000
namespace TfR
theorem body161:aaM Tryz.prog 161=true:=ζ
theorem body198:aaM Tryz.prog 198=true:=ζ
theorem body230:aaM Tryz.prog 230=true:=ζ
theorem body231:aaM Tryz.prog 231=true:=ζ
theorem body232:aaM Tryz.prog 232=true:=ζ
theorem body233:aaM Tryz.prog 233=true:=ζ
theorem el154:Sw.elemOf Tryz.prog 154=some (#[.int .u32 0],1,4):=ζ
theorem mixed:Tryz.prog.follows .mixedOrders=true:=ζ
theorem one154:aa4 Tryz.prog 154=true:=ζ
theorem size154:(Tryz.prog.info? 154).map (λi=>i.size)=some 1:=ζ
theorem sl26:sliceOf Tryz.prog 26=some (154,1):=ζ
theorem sls26:(sliceOf Tryz.prog 26).isSome=true:=ζ
theorem und152:Tryz.prog.underlying 152=some (TypeDesc.int .u64):=ζ
theorem und154:Tryz.prog.underlying 154=some (TypeDesc.int .u32):=ζ
theorem unds152:(Tryz.prog.underlying 152).isSome=true:=ζ
theorem unds154:(Tryz.prog.underlying 154).isSome=true:=ζ
end TfR
theorem nZ{w:World}{X:List Nat}(hX:∀m∈X,m<w.heap.size){v_a:Value}{a:List Nat}(h_a:UL w X v_a (a)){v_b:Value}{b:List Nat}(h_b:UL w X v_b (b))(hn_a:a.length<=100000000000)(hn_b:b.length<=100000000000)(hb_a:Lb a)(hb_b:Lb b)(hpos:0<val b):
 Calls Tryz.prog 197 #[v_a,v_b] w (Ret λr w'=>(∃qs:List Nat,∃rs:List Nat,∃r0 r1,r=.tuple #[r0,r1]/\UL w' X r0 (qs)/\UL w' X r1 (rs)/\Lb qs/\Lb rs/\val a=val b*val qs+val rs/\val rs<val b/\qs.length=KE a b/\rs.length=Hr a b)/\Below w.heap.size w w'):=by
 refine enter (N:=179) (fn:=Tryz.f197) (vs:=[v_a,v_b]) Tryz.func197 rfl rfl rfl ?_;intro fa hF;obtain⟨A_a,_,c_a,rfl,rfl,hu_a⟩:=h_a;have hl_a:=hu_a.len;have hc_a:=hu_a.cap;obtain⟨A_b,_,c_b,rfl,rfl,hu_b⟩:=h_b;have hl_b:=hu_b.len;have hc_b:=hu_b.cap;replace hF:Frm 179 fa [(0,(.slice (A_a) (a.length) (c_a))),(1,(.slice (A_b) (b.length) (c_b)))]:=hF;have hS:=St.refl w;have hca:=bM hb_a;have hcb:=bM hb_b;have hva:=bJ a;have hvb0:=bJ b;have hla:=cO a;have hlb:=cO b;have hbn:0<(ah b).length:=by cases hq:ah b with|nil=>rw[hq]at hvb0;simp[val]at hvb0;omega|cons _ _=>simp
 refine aak ?_;refine aal ?_;refine pr hF (pa rfl <| pa rfl <| PR.nil) ?_;clear hF fa;intro fa hF;refine aj ?_;refine aak ?_;refine aal ?_;refine pr hF (pm rfl <| PR.nil) ?_;clear hF fa;intro fa hF;have hC:=fF (w:=w) (X:=X) (l:=a) (hS.bnd hX) ⟨_,(a.length),_,rfl,(rfl),hu_a⟩;refine st rfl (fM hF rfl TfR.body230 (args1 (hF.ev rfl)) hC ?_);clear hC;rintro _ w1 ⟨⟨A4,_,c5,rfl,rfl,hu6⟩,hb2⟩;refine kF ?_;clear hF fa;intro fa hF;replace hS:=hS.call hb2;have E3:=Ext.call X hb2;refine pr hF (pm rfl <| PR.nil) ?_;clear hF fa;intro fa hF;have hC:=fF (w:=w1) (X:=X) (l:=b) (hS.bnd hX) ⟨_,(b.length),_,rfl,(rfl),(hu_b.ext E3)⟩;refine st rfl (fM hF rfl TfR.body230 (args1 (hF.ev rfl)) hC ?_);clear hC;rintro _ w7 ⟨⟨A10,_,c11,rfl,rfl,hu12⟩,hb8⟩;refine kF ?_;clear hF fa;intro fa hF;replace hS:=hS.call hb8;have E9:=Ext.call X hb8;refine pr hF (pa rfl <| pa rfl <| PR.nil) ?_;clear hF fa;intro fa hF;refine aj ?_;refine aak ?_;refine aak ?_;refine aal ?_;refine pr hF (pm rfl <| pg (λ_ hF=>gy TfR.sls26 (hF.ev rfl)) <| pg (λ_ hF=>ahM (hF.ev rfl) (hF.ev rfl)) <| PR.nil) ?_;clear hF fa;intro fa hF;refine aj ?_;refine dS hF rfl (λhc13=>?_) (λhc13=>?_)
 ·
  have hc13p:(((ah b).length:Nat):Int)=1:=by first|simpa using hc13|exact aW hc13|exact aX hc13
  have h1b:=GY (l:=ah b) ω;refine aak ?_;refine aal ?_;refine pr hF (pm rfl <| pm rfl <| PR.nil) ?_;clear hF fa;intro fa hF;obtain⟨ad14,hA15,hq16⟩:=hu12.cl.at_ (gI (l:=(ah b)) (i:=0) ω);refine pr hF (pg (λ_ hF=>gK (j:=0) TfR.sl26 (hF.ev rfl) hA15 (hF.ev rfl) ω ω) <| pg (λ_ hF=>aaT TfR.one154 (hF.ev rfl) hq16) <| PR.nil) ?_;clear hF fa;intro fa hF;have hC:=iZ (w:=w7) (X:=X) (a:=(ah a)) (hS.bnd hX) ⟨_,((ah a).length),_,rfl,(rfl),(hu6.ext E9)⟩ ((ah b).getD (0) 0) ω (hca.1) ω (hcb.1.getD 0);refine st rfl (fM hF rfl TfR.body231 (args2 (hF.ev rfl) (hF.ev (dV (b:=(((ah b).getD (0) 0:Nat):Int)) rfl (by first|rfl|omega)))) hC ?_);clear hC;rintro _ w17 ⟨⟨qs_20,rs_21,_,_,rfl,⟨A22,_,c23,rfl,rfl,hu24⟩,⟨A25,_,c26,rfl,rfl,hu27⟩,hp28,hp29,hp30,hp31,hp32,hp33⟩,hb18⟩;refine kF ?_;clear hF fa;intro fa hF;replace hS:=hS.call hb18;have E19:=Ext.call X hb18;have hw_lq:=hp28;have hw_lr:=hp29;have hw_v:=hp30;have hw_l:=hp31;have hw_q:=hp32;have hw_r:=hp33;refine pr hF (px rfl rfl <| px rfl rfl <| pa rfl <| pa rfl <| PR.nil) ?_;clear hF fa;intro fa hF;replace hF:Frm 179 fa [(0,(.slice (A4) ((ah a).length) (c5))),(1,(.slice (A10) ((ah b).length) (c11))),(4,(.slice (A22) (qs_20.length) (c23))),(5,(.slice (A25) (rs_21.length) (c26))),(23,(.bool (decide ((((ah b).length:Nat):Int)=1))))]:=(hF.all ⟨rfl,rfl,rfl,rfl,rfl,trivial⟩)
  refine aj ?_;refine ac6 ?_;refine agT ?_;refine Qq hF rfl (iD hF rfl) (iD hF rfl) ?_;exact⟨_,rfl,⟨qs_20,rs_21,_,_,rfl,(UL.fin (L:=qs_20) ⟨_,_,_,rfl,(rfl),hu24⟩ (rfl) (λx hx=>by simp[hx])),(UL.fin (L:=rs_21) ⟨_,_,_,rfl,(rfl),hu27⟩ (rfl) (λx hx=>by simp[hx])),(hw_lq),(hw_lr),(by rw[<-hva,<-hvb0,h1b];exact hw_v),(by rw[<-hvb0,h1b];exact hw_l),(by unfold KE;rw[if_pos ω];omega),(by unfold Hr;rw[if_pos ω];omega)⟩,hS.below⟩
 have hc13p:¬((((ah b).length:Nat):Int)=1):=by first|simpa using hc13|exact aW hc13|exact aX hc13
 have hn2:2<=(ah b).length:=ω
 refine aa1 ?_;refine aaG ?_;refine aak ?_;refine aak ?_;refine aal ?_;refine pr hF (pm rfl <| pm rfl <| PR.nil) ?_;clear hF fa;intro fa hF;have hC:=l9 (w:=w7) (X:=X) (a:=(ah a)) (b:=(ah b)) (hS.bnd hX) ⟨_,((ah a).length),_,rfl,(rfl),(hu6.ext E9)⟩ ⟨_,((ah b).length),_,rfl,(rfl),hu12⟩ (hca.1) (hcb.1);refine st rfl (fM hF rfl TfR.body198 (args2 (hF.ev rfl) (hF.ev rfl)) hC ?_);clear hC;rintro _ w34 ⟨rfl,hb35⟩;refine kF ?_;clear hF fa;intro fa hF;replace hS:=hS.call hb35;have E36:=Ext.call X hb35;refine pr hF (pg (λ_ hF=>ab5 (hF.ev rfl) (hF.ev rfl)) <| PR.nil) ?_;clear hF fa;intro fa hF;refine aj ?_;refine dS hF rfl (λhc37=>?_) (λhc37=>?_)
 ·
  have hc37p:(dD (val ((ah a))) (val ((ah b))))<0:=by first|simpa using hc37|exact aW hc37|exact aX hc37
  have hlt0:=nD.1 hc37p;refine aak ?_;refine aal ?_;refine pr hF (pm rfl <| PR.nil) ?_;clear hF fa;intro fa hF;refine st rfl (uX (X:=X) (F:=[]) (So:=[]) (l:=us ([])) (m:=us ((ah a))) hF hS rfl TfR.sl26 TfR.el154 rfl rfl rfl η (OwV.nil 154) (hu6.ext (E9.trans E36)).cl (F6 _) κ κ ?_);intro v38 So39 w40 hO41 hS E42 hun43;refine kF ?_;clear hF fa;intro fa hF;clear hun43;rw[<-uY]at hO41;simp only[lS]at hO41;replace E42:Ext w34 X w40 (bl So39++X):=E42;replace hS:St w w40 So39:=hS;refine pr hF (pa rfl <| pa rfl <| PR.nil) ?_;clear hF fa;intro fa hF;refine aj ?_;refine ac6 ?_;refine agT ?_;refine Qq hF rfl (iD hF rfl) (iD hF rfl) ?_;exact⟨_,rfl,⟨[],(ah a),_,_,rfl,(UL.nil_ _ _),(UL.fin (UC.of_ow (F:=[]) hO41 hS hX) (rfl) (λ_ h=>h)),(Lb.nil),(hca.1),(by rw[hva];simp[val]),ω,(by unfold KE;rw[if_neg ω,if_pos ω];rfl),(by unfold Hr;rw[if_neg ω,if_pos ω])⟩,hS.below⟩
 have hc37p:¬((dD (val ((ah a))) (val ((ah b))))<0):=by first|simpa using hc37|exact aW hc37|exact aX hc37
 have hle0:val (ah b)<=val (ah a):=by have:=mt nD.2 hc37p;omega
 have hlen:=tJ hca hcb hle0;have hbtop:=hcb.1.getD ((ah b).length-1);refine aa1 ?_;refine aaG ?_;refine aak ?_;refine aal ?_;refine pr hF (pm rfl <| pg (λ_ hF=>gy TfR.sls26 (hF.ev rfl)) <| pa rfl <| PR.nil) ?_;clear hF fa;intro fa hF;refine aj ?_;refine aak ?_;refine aal ?_;refine pr hF (pm rfl <| pm rfl <| pg (λ_ hF=>aaQ (hF.ev rfl) (hF.ev rfl) eH) <| PR.nil) ?_;clear hF fa;intro fa hF;obtain⟨ad44,hA45,hq46⟩:=(hu12.ext E36).cl.at_ (gI (l:=(ah b)) (i:=(ah b).length-1) ω);refine pr hF (pg (λ_ hF=>gK (j:=(ah b).length-1) TfR.sl26 (hF.ev rfl) hA45 (hF.ev rfl) ω ω) <| pg (λ_ hF=>aaT TfR.one154 (hF.ev rfl) hq46) <| pg (λ_ hF=>aaJ TfR.unds154 TfR.und152 (hF.ev rfl) (iI ω)) <| pg (λ_ hF=>aaC (hF.ev rfl) (hF.ev rfl) iG) <| pg (λ_ hF=>adf (hF.ev rfl) (hF.ev rfl) ω (yu (x:=1000000000) (y:=((ah b).getD ((ah b).length-1) 0)+1) ω ω ω)) <| pg (λ_ hF=>aaJ TfR.unds152 TfR.und154 (hF.ev rfl) (Dx (by have:=Ky 1000000000 ((ah b).getD ((ah b).length-1) 0+1);omega))) <| pa rfl <| PR.nil) ?_;clear hF fa;intro fa hF;replace hF:Frm 179 fa [(0,(.slice (A4) ((ah a).length) (c5))),(1,(.slice (A10) ((ah b).length) (c11))),(4,(.slice (none) (0) (0))),(5,(.slice (none) (0) (0))),(23,(.bool (decide ((((ah b).length:Nat):Int)=1)))),(34,(.bool (decide ((dD (val ((ah a))) (val ((ah b))))<0)))),(6,(.int .i64 ((((ah b).length:Nat):Int)))),(7,(.int .u32 (((1000000000/(((ah b).getD ((ah b).length-1) 0)+1):Nat):Int))))]:=(hF.all ⟨rfl,rfl,rfl,rfl,rfl,rfl,rfl,rfl,trivial⟩)
 refine aj ?_;refine aak ?_;obtain⟨sc,hsc⟩:∃sc,sc=1000000000/((ah b).getD ((ah b).length-1) 0+1):=⟨_,rfl⟩
 rw[<-hsc]at hF;have hscB:=Iq hcb rfl hbn hsc;refine aal ?_;refine pr hF (pm rfl <| pm rfl <| PR.nil) ?_;clear hF fa;intro fa hF;refine st rfl (Ac (X:=X) hF hS (hS.bnd hX) rfl TfR.sl26 TfR.el154 rfl rfl (JV (hF.ev (dV (b:=((sc:Nat):Int)) rfl ω))) (xg (x:=sc)) ?_);intro g47 w48 hg50 hS E49 hc51;refine kF ?_;clear hF fa;intro fa hF;have hu52:=UC.one (l:=[sc]) hc51 η;have hC:=jm (w:=w48) (X:=X) (a:=(ah a)) (b:=([sc])) (hS.bnd hX) ⟨_,((ah a).length),_,rfl,(rfl),(hu6.ext ((E9.trans E36).trans E49))⟩ ⟨_,(1),_,rfl,(rfl),hu52⟩ ω η (hca.1) (Lb.cons hscB Lb.nil);refine st rfl (fM hF rfl TfR.body161 (args2 (hF.ev rfl) (hF.ev rfl)) hC ?_);clear hC;rintro _ w53 ⟨⟨o_56,⟨g57,rfl,hq58,hg59⟩,hp60,hp61,hp62⟩,hb54⟩;refine kF ?_;clear hF fa;intro fa hF;replace hS:=hS.push_new hb54 hq58 hg59;have E55:=Ext.push_new X hb54 hg59;simp[val]at hp61 hp62;have hol:=hp62;have hob:=hp60;have hu0:val (o_56++[0])=val a*sc:=by rw[Fb,hp61,hva]
 refine st rfl (Ac (X:=(g57::X)) hF hS (hS.bnd hX) rfl TfR.sl26 TfR.el154 rfl rfl (JV (hF.ev (dV (b:=((0:Nat):Int)) rfl ω))) (xg (x:=0)) ?_);intro g63 w64 hg66 hS E65 hc67;refine kF ?_;clear hF fa;intro fa hF;have hu68:=UC.one (l:=[0]) hc67 η;refine st rfl (uX (X:=X) (F:=[]) (So:=[(g57,154,(us (o_56)).toArray)]) (l:=us (o_56)) (m:=us ([0])) hF hS rfl TfR.sl26 TfR.el154 rfl rfl rfl η (OwV.full 154 g57 (o_56) (o_56.length) (o_56.length) (by first|rfl|(simp;done)|omega) (by first|rfl|(simp;done)|omega) (by first|omega|(simp;omega))) hu68.cl (F6 _) κ κ ?_);intro v69 So70 w71 hO72 hS E73 hun74;refine kF ?_;clear hF fa;intro fa hF;clear hun74;rw[<-uY]at hO72;replace E73:Ext w64 (g57::X) w71 (bl So70++X):=E73;replace hS:St w w71 So70:=hS;obtain⟨g75,c76,R77,hs81,hv78,hcl79,hcm80⟩:=OwV.settle hO72 η;unfold maxLen at hcm80;subst hs81;subst hv78;have hs81_:(o_56++([0])).length=(ah a).length+2:=by simp;omega
 rw[hs81_]at hF hcl79;refine pr hF (pa rfl <| PR.nil) ?_;clear hF fa;intro fa hF;refine aj ?_;refine aak ?_;refine aal ?_;refine pr hF (pm rfl <| pm rfl <| PR.nil) ?_;clear hF fa;intro fa hF;refine st rfl (Ac (X:=(g75::X)) hF hS (hS.bnd hX) rfl TfR.sl26 TfR.el154 rfl rfl (JV (hF.ev (dV (b:=((sc:Nat):Int)) rfl ω))) (xg (x:=sc)) ?_);intro g82 w83 hg85 hS E84 hc86;refine kF ?_;clear hF fa;intro fa hF;have hu87:=UC.one (l:=[sc]) hc86 η;have hC:=jm (w:=w83) (X:=(g75::X)) (a:=(ah b)) (b:=([sc])) (hS.bnd hX) ⟨_,((ah b).length),_,rfl,(rfl),(hu12.ext (((((E36.trans E49).trans E55).trans E65).trans E73).trans E84))⟩ ⟨_,(1),_,rfl,(rfl),hu87⟩ ω η (hcb.1) (Lb.cons hscB Lb.nil);refine st rfl (fM hF rfl TfR.body161 (args2 (hF.ev rfl) (hF.ev rfl)) hC ?_);clear hC;rintro _ w88 ⟨⟨o_91,⟨g92,rfl,hq93,hg94⟩,hp95,hp96,hp97⟩,hb89⟩;refine kF ?_;clear hF fa;intro fa hF;replace hS:=hS.push_new hb89 hq93 hg94;have E90:=Ext.push_new (g75::X) hb89 hg94;simp[val]at hp96 hp97;have hcv:=bM hp95;obtain⟨hsc0,_,hvn,hvtop,hvP⟩:=Et (v:=ah o_91) hcb rfl hbn hsc hcv (by rw[bJ,hp96]);have hvb:=hcv.1;have hvL:=λi=>hvb.getD i
 have hV:val (ah o_91)=val b*sc:=by rw[bJ,hp96,hvb0]
 have hVM:val (ah o_91)<=1000000000^((ah b).length+1):=by have h0:=bV _ hvb;rw[hvn]at h0;have:=xM (n:=1000000000) ω (show(ah b).length<=(ah b).length+1 by omega);omega
 obtain⟨hS1,hn1⟩:=hS.out hX 0 rfl;have hu98:=UC.of_box (L:=o_91) (hS.get 0 rfl) hn1 (by first|omega|(simp;omega));have E99:Ext w88 (g92 ::(g75::X)) w88 (g75::X):=Ext.drop (by simp +contextual);replace hu98:UC w88 (g75::X) (some ⟨g92,0,none⟩) (o_91).length (o_91):=hu98;replace hS:St w w88 [(g75,154,(us (o_56++([0]))++R77).toArray)]:=hS1;clear hn1;have hC:=fF (w:=w88) (X:=(g75::X)) (l:=o_91) (hS.bnd hX) (UL.cap (n:=o_91.length) (c:=o_91.length) hu98 (by first|rfl|(simp;done)|omega) (by first|rfl|(simp;done)|omega));refine st rfl (fM hF rfl TfR.body230 (args1 (hF.ev rfl)) hC ?_);clear hC;rintro _ w100 ⟨⟨A103,_,c104,rfl,rfl,hu105⟩,hb101⟩;refine kF ?_;clear hF fa;intro fa hF;replace hS:=hS.call hb101;have E102:=Ext.call (g75::X) hb101;refine pr hF (pa rfl <| PR.nil) ?_;clear hF fa;intro fa hF;refine aj ?_;refine aak ?_;refine aal ?_;refine pr hF (pm rfl <| pg (λ_ hF=>gy TfR.sls26 (hF.ev rfl)) <| pm rfl <| pg (λ_ hF=>aaQ (hF.ev rfl) (hF.ev rfl) eH) <| PR.nil) ?_;clear hF fa;intro fa hF;refine st rfl (Dy (X:=(g75::X)) (nl:=((ah a).length+2)-((ah b).length)) (nc:=((ah a).length+2)-((ah b).length)) hF hS rfl TfR.sl26 TfR.el154 rfl rfl ω ω ω ω ω (vS _) ?_);intro g106 w107 hg109 hS E108;refine kF ?_;clear hF fa;intro fa hF;rw[Nat.mul_one]at hS;refine pr hF (pa rfl <| PR.nil) ?_;clear hF fa;intro fa hF;replace hF:Frm 179 fa [(0,(.slice (A4) ((ah a).length) (c5))),(1,(.slice (A10) ((ah b).length) (c11))),(4,(.slice (none) (0) (0))),(5,(.slice (none) (0) (0))),(23,(.bool (decide ((((ah b).length:Nat):Int)=1)))),(34,(.bool (decide ((dD (val ((ah a))) (val ((ah b))))<0)))),(6,(.int .i64 ((((ah b).length:Nat):Int)))),(7,(.int .u32 (((sc:Nat):Int)))),(8,(.slice (some ⟨g75,0,none⟩) ((ah a).length+2) (c76))),(9,(.slice (A103) ((ah o_91).length) (c104))),(10,(.slice (some ⟨g106,0,none⟩) (((ah a).length+2)-((ah b).length)) (((ah a).length+2)-((ah b).length))))]:=(hF.all ⟨rfl,rfl,rfl,rfl,rfl,rfl,rfl,rfl,rfl,rfl,rfl,trivial⟩)
 refine aj ?_;refine aak ?_;refine aak ?_;refine aal ?_;refine pr hF (pm rfl <| pg (λ_ hF=>gy TfR.sls26 (hF.ev rfl)) <| pm rfl <| pg (λ_ hF=>aaQ (hF.ev rfl) (hF.ev rfl) eH) <| pg (λ_ hF=>aaQ (hF.ev rfl) (hF.ev rfl) eH) <| pa rfl <| PR.nil) ?_;clear hF fa;intro fa hF;refine aj ?_;refine aa8 ?_;refine oW (λmu fa w'=>∃U:List Nat,∃Q:List Nat,∃j:Nat,Frm 179 fa [(0,(.slice (A4) ((ah a).length) (c5))),(1,(.slice (A10) ((ah b).length) (c11))),(4,(.slice (none) (0) (0))),(5,(.slice (none) (0) (0))),(23,(.bool (decide ((((ah b).length:Nat):Int)=1)))),(34,(.bool (decide ((dD (val ((ah a))) (val ((ah b))))<0)))),(6,(.int .i64 ((((ah b).length:Nat):Int)))),(7,(.int .u32 (((sc:Nat):Int)))),(8,(.slice (some ⟨g75,0,none⟩) ((ah a).length+2) (c76))),(9,(.slice (A103) ((ah o_91).length) (c104))),(10,(.slice (some ⟨g106,0,none⟩) (((ah a).length+2)-((ah b).length)) (((ah a).length+2)-((ah b).length)))),(11,(.int .i64 (((j:Nat):Int)-1)))]/\St w w' [(g106,154,(us (Q)).toArray),(g75,154,(us (U)++R77).toArray)]/\Ext w107 (g106 ::(g75::X)) w' (g106 ::(g75::X))/\(j<=(ah a).length+2-(ah b).length)/\(U.length=(ah a).length+2)/\(Lb U)/\(Q.length=(ah a).length+2-(ah b).length)/\(Lb Q)/\(DivInv (val a*sc) (val (ah o_91)) U Q j)/\j=mu) ?_ ?_
 ·
  exact⟨_,o_56++([0]),List.replicate (((ah a).length+2)-((ah b).length)) 0,((ah a).length+2-(ah b).length),(hF.all ⟨rfl,rfl,rfl,rfl,rfl,rfl,rfl,rfl,rfl,rfl,rfl,(aJ rfl ω),trivial⟩),hS,Ext.refl _ _,(gW _),κ,(jY hob ω),η,(iQ _),(by rw[<-hu0];exact DivInv.start (n:=(ah b).length) κ ω (jY hob ω) (by rw[show(ah a).length+2-(ah b).length+(ah b).length-1=_ from(show _=(_:List Nat).length by rw[hol];omega)];exact Ae _) hvP),rfl⟩
 clear hF fa;intro n0_ fa w' hI;clear hS;obtain⟨U,Q,j,hF,hS,E111,hj,hUl,hbU,hQl,hbQ,hI,rfl⟩:=hI
 rename World=>w110
 refine aak ?_;refine aak ?_;refine aal ?_;refine pr hF (pm rfl <| pg (λ_ hF=>acF (hF.ev rfl) (hF.ev rfl)) <| PR.nil) ?_;clear hF fa;intro fa hF;refine aj ?_;refine dS hF rfl (λhc112=>?_) (λhc112=>?_)
 ·
  have hc112p:(((j:Nat):Int)-1)>=0:=by first|simpa using hc112|exact aW hc112|exact aX hc112
  refine aa1 ?_;refine aaG ?_;refine aak ?_;refine aa8 ?_;refine aak ?_;have hdw:=hI.win (n:=(ah b).length) ω ω hvb hbU hvn;have htl:=Qn hdw hn2 hvn hvb;have hua:=hbU.getD (j-1+(ah b).length);have hub:=hbU.getD (j-1+(ah b).length-1);have huc:=hbU.getD (j-1+(ah b).length-2);have hva1:=hvL ((ah b).length-1);have hva2:=hvL ((ah b).length-2)
  refine wQ (N:=179) (L0:=[(0,(.slice (A4) ((ah a).length) (c5))),(1,(.slice (A10) ((ah b).length) (c11))),(4,(.slice (none) (0) (0))),(5,(.slice (none) (0) (0))),(23,(.bool (decide ((((ah b).length:Nat):Int)=1)))),(34,(.bool (decide ((dD (val ((ah a))) (val ((ah b))))<0)))),(6,(.int .i64 ((((ah b).length:Nat):Int)))),(7,(.int .u32 (((sc:Nat):Int)))),(8,(.slice (some ⟨g75,0,none⟩) ((ah a).length+2) (c76))),(9,(.slice (A103) ((ah o_91).length) (c104))),(10,(.slice (some ⟨g106,0,none⟩) (((ah a).length+2)-((ah b).length)) (((ah a).length+2)-((ah b).length)))),(11,(.int .i64 (((j:Nat):Int)-1))),(70,(.bool (decide ((((j:Nat):Int)-1)>=0))))]) [some (.slice (some ⟨g75,0,none⟩) ((ah a).length+2) (c76)),some (.int .i64 (((j:Nat):Int)-1)),some (.int .i64 ((((ah b).length:Nat):Int))),some (.int .i64 ((((j:Nat):Int)-1)+(((ah b).length:Nat):Int))),some (.pointer (some ⟨g75,j-1+(ah b).length,none⟩)),some (.int .u32 (((U.getD (j-1+(ah b).length) 0:Nat):Int))),some (.int .u64 (((U.getD (j-1+(ah b).length) 0:Nat):Int))),some (.int .u64 (((U.getD (j-1+(ah b).length) 0:Nat):Int)*1000000000)),some (.slice (some ⟨g75,0,none⟩) ((ah a).length+2) (c76)),some (.int .i64 (((j:Nat):Int)-1)),some (.int .i64 ((((ah b).length:Nat):Int))),some (.int .i64 ((((j:Nat):Int)-1)+(((ah b).length:Nat):Int))),some (.int .i64 (((((j:Nat):Int)-1)+(((ah b).length:Nat):Int))-1)),some (.pointer (some ⟨g75,j-1+(ah b).length-1,none⟩)),some (.int .u32 (((U.getD (j-1+(ah b).length-1) 0:Nat):Int))),some (.int .u64 (((U.getD (j-1+(ah b).length-1) 0:Nat):Int))),some (.int .u64 ((((U.getD (j-1+(ah b).length) 0:Nat):Int)*1000000000)+((U.getD (j-1+(ah b).length-1) 0:Nat):Int))),some (.int .u64 ((((U.getD (j-1+(ah b).length) 0:Nat):Int)*1000000000)+((U.getD (j-1+(ah b).length-1) 0:Nat):Int)))] [] [[]] [[0],[0],[0],[0],[0],[0],[0],[0],[0],[0],[0],[0],[0],[0],[0],[0],[0],[0]] 0 [
   λfa w'=>Frm 179 fa []/\St w w' [(g106,154,(us (Q)).toArray),(g75,154,(us (U)++R77).toArray)]/\Ext w110 (g106 ::(g75::X)) w' (g106 ::(g75::X))
   ] TfR.mixed rfl rfl rfl rfl rfl rfl (hF.all ⟨rfl,rfl,rfl,rfl,rfl,rfl,rfl,rfl,rfl,rfl,rfl,rfl,rfl,trivial⟩) rfl ⟨hF.nil,hS.drew,Ext.drew _ _⟩ ?_ ?_ ?_
  all_goals clear hF fa
  ·
   refine⟨?_,trivial⟩
   ·
    rintro fa w' i o d v ho hd hna ⟨hA,hR⟩;exact⟨hA.put_other v (jy (acts:=[]) rfl ho hd hna),hR⟩
  ·
   refine⟨?_, ?_, ?_, ?_, ?_, ?_, ?_, ?_, ?_, ?_, ?_, ?_, ?_, ?_, ?_, ?_, ?_, ?_,trivial⟩
   ·
    refine .inl ⟨rfl,_,_,rfl,rfl,λs fa w' hΦ hF hB K hK=>?_⟩;exact aB rfl rfl rfl (aaw (hF.ev rfl)) hK
   ·
    refine .inl ⟨rfl,_,_,rfl,rfl,λs fa w' hΦ hF hB K hK=>?_⟩;exact aB rfl rfl rfl (aaw (hF.ev rfl)) hK
   ·
    refine .inl ⟨rfl,_,_,rfl,rfl,λs fa w' hΦ hF hB K hK=>?_⟩;exact aB rfl rfl rfl (aaw (hF.ev rfl)) hK
   ·
    refine .inl ⟨rfl,_,_,rfl,rfl,λs fa w' hΦ hF hB K hK=>?_⟩;replace hF:=hF.cons (hB.val 1 _ 74 _ rfl rfl rfl rfl);replace hF:=hF.cons (hB.val 2 _ 75 _ rfl rfl rfl rfl);exact aB rfl rfl rfl (aaC (hF.ev rfl) (hF.ev rfl) eH) hK
   ·
    refine .inl ⟨rfl,_,_,rfl,rfl,λs fa w' hΦ hF hB K hK=>?_⟩;replace hF:=hF.cons (hB.val 0 _ 73 _ rfl rfl rfl rfl);replace hF:=hF.cons (hB.val 3 _ 76 _ rfl rfl rfl rfl);exact aB rfl rfl rfl (iW (j:=j-1+(ah b).length) TfR.sl26 (hF.ev rfl) (hF.ev rfl) ω ω) hK
   ·
    refine .inr (.inl ⟨rfl,_,_,rfl,rfl, ?_,trivial⟩)
    ·
     intro fa w' hΦ hF hB K hK;obtain⟨hA,hS,E_w'⟩:=hΦ;replace hF:=hF.cons (hB.val 4 _ 77 _ rfl rfl rfl rfl);exact aB rfl rfl rfl (dG TfR.one154 (hF.ev rfl) (hS.get 1 rfl) (kZ (by first|omega|(simp;omega)))) hK
   ·
    refine .inl ⟨rfl,_,_,rfl,rfl,λs fa w' hΦ hF hB K hK=>?_⟩;replace hF:=hF.cons (hB.val 5 _ 78 _ rfl rfl rfl rfl);exact aB rfl rfl rfl (aaJ TfR.unds154 TfR.und152 (hF.ev rfl) (iI ω)) hK
   ·
    refine .inl ⟨rfl,_,_,rfl,rfl,λs fa w' hΦ hF hB K hK=>?_⟩;replace hF:=hF.cons (hB.val 6 _ 79 _ rfl rfl rfl rfl);exact aB rfl rfl rfl (adp (hF.ev rfl) (hF.ev rfl) iG) hK
   ·
    refine .inl ⟨rfl,_,_,rfl,rfl,λs fa w' hΦ hF hB K hK=>?_⟩;exact aB rfl rfl rfl (aaw (hF.ev rfl)) hK
   ·
    refine .inl ⟨rfl,_,_,rfl,rfl,λs fa w' hΦ hF hB K hK=>?_⟩;exact aB rfl rfl rfl (aaw (hF.ev rfl)) hK
   ·
    refine .inl ⟨rfl,_,_,rfl,rfl,λs fa w' hΦ hF hB K hK=>?_⟩;exact aB rfl rfl rfl (aaw (hF.ev rfl)) hK
   ·
    refine .inl ⟨rfl,_,_,rfl,rfl,λs fa w' hΦ hF hB K hK=>?_⟩;replace hF:=hF.cons (hB.val 9 _ 82 _ rfl rfl rfl rfl);replace hF:=hF.cons (hB.val 10 _ 83 _ rfl rfl rfl rfl);exact aB rfl rfl rfl (aaC (hF.ev rfl) (hF.ev rfl) eH) hK
   ·
    refine .inl ⟨rfl,_,_,rfl,rfl,λs fa w' hΦ hF hB K hK=>?_⟩;replace hF:=hF.cons (hB.val 11 _ 84 _ rfl rfl rfl rfl);exact aB rfl rfl rfl (aaQ (hF.ev rfl) (hF.ev rfl) eH) hK
   ·
    refine .inl ⟨rfl,_,_,rfl,rfl,λs fa w' hΦ hF hB K hK=>?_⟩;replace hF:=hF.cons (hB.val 8 _ 81 _ rfl rfl rfl rfl);replace hF:=hF.cons (hB.val 12 _ 85 _ rfl rfl rfl rfl);exact aB rfl rfl rfl (iW (j:=j-1+(ah b).length-1) TfR.sl26 (hF.ev rfl) (hF.ev rfl) ω ω) hK
   ·
    refine .inr (.inl ⟨rfl,_,_,rfl,rfl, ?_,trivial⟩)
    ·
     intro fa w' hΦ hF hB K hK;obtain⟨hA,hS,E_w'⟩:=hΦ;replace hF:=hF.cons (hB.val 13 _ 86 _ rfl rfl rfl rfl);exact aB rfl rfl rfl (dG TfR.one154 (hF.ev rfl) (hS.get 1 rfl) (kZ (by first|omega|(simp;omega)))) hK
   ·
    refine .inl ⟨rfl,_,_,rfl,rfl,λs fa w' hΦ hF hB K hK=>?_⟩;replace hF:=hF.cons (hB.val 14 _ 87 _ rfl rfl rfl rfl);exact aB rfl rfl rfl (aaJ TfR.unds154 TfR.und152 (hF.ev rfl) (iI ω)) hK
   ·
    refine .inl ⟨rfl,_,_,rfl,rfl,λs fa w' hΦ hF hB K hK=>?_⟩;replace hF:=hF.cons (hB.val 7 _ 80 _ rfl rfl rfl rfl);replace hF:=hF.cons (hB.val 15 _ 88 _ rfl rfl rfl rfl);exact aB rfl rfl rfl (aaC (hF.ev rfl) (hF.ev rfl) iG) hK
   ·
    refine .inl ⟨rfl,_,_,rfl,rfl,λs fa w' hΦ hF hB K hK=>?_⟩;replace hF:=hF.cons (hB.val 16 _ 89 _ rfl rfl rfl rfl);exact aB rfl rfl rfl (abM (hF.ev rfl)) hK
  intro fa w113 hΦ hF hC;obtain⟨hA,hS,E_w113⟩:=hΦ;replace hF:=hF.cons (hC 17 _ 12 _ rfl rfl rfl);clear hA hC;refine aaG ?_;refine aak ?_;obtain⟨ad_94,hA_94,hq_94⟩:=(hu105.ext ((E108.trans E111).trans E_w113)).cl.at2 (gI (l:=(ah o_91)) (i:=(ah b).length-1) ω);obtain⟨ad_102,hA_102,hq_102⟩:=(hu105.ext ((E108.trans E111).trans E_w113)).cl.at2 (gI (l:=(ah o_91)) (i:=(ah b).length-1) ω)
  refine wQ (N:=179) (L0:=[(0,(.slice (A4) ((ah a).length) (c5))),(1,(.slice (A10) ((ah b).length) (c11))),(4,(.slice (none) (0) (0))),(5,(.slice (none) (0) (0))),(23,(.bool (decide ((((ah b).length:Nat):Int)=1)))),(34,(.bool (decide ((dD (val ((ah a))) (val ((ah b))))<0)))),(6,(.int .i64 ((((ah b).length:Nat):Int)))),(7,(.int .u32 (((sc:Nat):Int)))),(8,(.slice (some ⟨g75,0,none⟩) ((ah a).length+2) (c76))),(9,(.slice (A103) ((ah o_91).length) (c104))),(10,(.slice (some ⟨g106,0,none⟩) (((ah a).length+2)-((ah b).length)) (((ah a).length+2)-((ah b).length)))),(11,(.int .i64 (((j:Nat):Int)-1))),(70,(.bool (decide ((((j:Nat):Int)-1)>=0)))),(12,(.int .u64 ((((U.getD (j-1+(ah b).length) 0:Nat):Int)*1000000000)+((U.getD (j-1+(ah b).length-1) 0:Nat):Int))))]) [some (.int .u64 ((((U.getD (j-1+(ah b).length) 0:Nat):Int)*1000000000)+((U.getD (j-1+(ah b).length-1) 0:Nat):Int))),some (.slice (A103) ((ah o_91).length) (c104)),some (.int .i64 ((((ah b).length:Nat):Int))),some (.int .i64 ((((ah b).length:Nat):Int)-1)),some (.pointer (some (ad_94.add ((ah b).length-1)))),some (.int .u32 ((((ah o_91).getD ((ah b).length-1) 0:Nat):Int))),some (.int .u64 ((((ah o_91).getD ((ah b).length-1) 0:Nat):Int))),some (.int .u64 ((((((U.getD (j-1+(ah b).length) 0)*1000000000)+(U.getD (j-1+(ah b).length-1) 0))/((ah o_91).getD ((ah b).length-1) 0):Nat):Int))),some (.int .u64 ((((U.getD (j-1+(ah b).length) 0:Nat):Int)*1000000000)+((U.getD (j-1+(ah b).length-1) 0:Nat):Int))),some (.slice (A103) ((ah o_91).length) (c104)),some (.int .i64 ((((ah b).length:Nat):Int))),some (.int .i64 ((((ah b).length:Nat):Int)-1)),some (.pointer (some (ad_102.add ((ah b).length-1)))),some (.int .u32 ((((ah o_91).getD ((ah b).length-1) 0:Nat):Int))),some (.int .u64 ((((ah o_91).getD ((ah b).length-1) 0:Nat):Int))),some (.int .u64 ((((((U.getD (j-1+(ah b).length) 0)*1000000000)+(U.getD (j-1+(ah b).length-1) 0))%((ah o_91).getD ((ah b).length-1) 0):Nat):Int))),some (.int .u64 ((((((U.getD (j-1+(ah b).length) 0)*1000000000)+(U.getD (j-1+(ah b).length-1) 0))/((ah o_91).getD ((ah b).length-1) 0):Nat):Int))),some (.int .u64 ((((((U.getD (j-1+(ah b).length) 0)*1000000000)+(U.getD (j-1+(ah b).length-1) 0))%((ah o_91).getD ((ah b).length-1) 0):Nat):Int)))] [] [[]] [[0],[0],[0],[0],[0],[0],[0],[0],[0],[0],[0],[0],[0],[0],[0],[0],[0],[0]] 0 [
   λfa w'=>Frm 179 fa []/\St w w' [(g106,154,(us (Q)).toArray),(g75,154,(us (U)++R77).toArray)]/\Ext w113 (g106 ::(g75::X)) w' (g106 ::(g75::X))
   ] TfR.mixed rfl rfl rfl rfl rfl rfl (hF.all ⟨rfl,rfl,rfl,rfl,rfl,rfl,rfl,rfl,rfl,rfl,rfl,rfl,rfl,rfl,trivial⟩) rfl ⟨hF.nil,hS.drew,Ext.drew _ _⟩ ?_ ?_ ?_
  all_goals clear hF fa
  ·
   refine⟨?_,trivial⟩
   ·
    rintro fa w' i o d v ho hd hna ⟨hA,hR⟩;exact⟨hA.put_other v (jy (acts:=[]) rfl ho hd hna),hR⟩
  ·
   refine⟨?_, ?_, ?_, ?_, ?_, ?_, ?_, ?_, ?_, ?_, ?_, ?_, ?_, ?_, ?_, ?_, ?_, ?_,trivial⟩
   ·
    refine .inl ⟨rfl,_,_,rfl,rfl,λs fa w' hΦ hF hB K hK=>?_⟩;exact aB rfl rfl rfl (aaw (hF.ev rfl)) hK
   ·
    refine .inl ⟨rfl,_,_,rfl,rfl,λs fa w' hΦ hF hB K hK=>?_⟩;exact aB rfl rfl rfl (aaw (hF.ev rfl)) hK
   ·
    refine .inl ⟨rfl,_,_,rfl,rfl,λs fa w' hΦ hF hB K hK=>?_⟩;exact aB rfl rfl rfl (aaw (hF.ev rfl)) hK
   ·
    refine .inl ⟨rfl,_,_,rfl,rfl,λs fa w' hΦ hF hB K hK=>?_⟩;replace hF:=hF.cons (hB.val 2 _ 92 _ rfl rfl rfl rfl);exact aB rfl rfl rfl (aaQ (hF.ev rfl) (hF.ev rfl) eH) hK
   ·
    refine .inl ⟨rfl,_,_,rfl,rfl,λs fa w' hΦ hF hB K hK=>?_⟩;replace hF:=hF.cons (hB.val 1 _ 91 _ rfl rfl rfl rfl);replace hF:=hF.cons (hB.val 3 _ 93 _ rfl rfl rfl rfl);exact aB rfl rfl rfl (gK (j:=(ah b).length-1) TfR.sl26 (hF.ev rfl) hA_94 (hF.ev rfl) ω ω) hK
   ·
    refine .inr (.inl ⟨rfl,_,_,rfl,rfl, ?_,trivial⟩)
    ·
     intro fa w' hΦ hF hB K hK;obtain⟨hA,hS,E_w'⟩:=hΦ;replace hF:=hF.cons (hB.val 4 _ 94 _ rfl rfl rfl rfl);exact aB rfl rfl rfl (aaT TfR.one154 (hF.ev rfl) (hq_94 E_w')) hK
   ·
    refine .inl ⟨rfl,_,_,rfl,rfl,λs fa w' hΦ hF hB K hK=>?_⟩;replace hF:=hF.cons (hB.val 5 _ 95 _ rfl rfl rfl rfl);exact aB rfl rfl rfl (aaJ TfR.unds154 TfR.und152 (hF.ev rfl) (iI ω)) hK
   ·
    refine .inl ⟨rfl,_,_,rfl,rfl,λs fa w' hΦ hF hB K hK=>?_⟩;replace hF:=hF.cons (hB.val 0 _ 90 _ rfl rfl rfl rfl);replace hF:=hF.cons (hB.val 6 _ 96 _ rfl rfl rfl rfl);exact aB rfl rfl rfl (adf (hF.ev rfl) (hF.ev rfl) ω (yu (x:=((U.getD (j-1+(ah b).length) 0)*1000000000)+(U.getD (j-1+(ah b).length-1) 0)) (y:=(ah o_91).getD ((ah b).length-1) 0) ω ω ω)) hK
   ·
    refine .inl ⟨rfl,_,_,rfl,rfl,λs fa w' hΦ hF hB K hK=>?_⟩;exact aB rfl rfl rfl (aaw (hF.ev rfl)) hK
   ·
    refine .inl ⟨rfl,_,_,rfl,rfl,λs fa w' hΦ hF hB K hK=>?_⟩;exact aB rfl rfl rfl (aaw (hF.ev rfl)) hK
   ·
    refine .inl ⟨rfl,_,_,rfl,rfl,λs fa w' hΦ hF hB K hK=>?_⟩;exact aB rfl rfl rfl (aaw (hF.ev rfl)) hK
   ·
    refine .inl ⟨rfl,_,_,rfl,rfl,λs fa w' hΦ hF hB K hK=>?_⟩;replace hF:=hF.cons (hB.val 10 _ 100 _ rfl rfl rfl rfl);exact aB rfl rfl rfl (aaQ (hF.ev rfl) (hF.ev rfl) eH) hK
   ·
    refine .inl ⟨rfl,_,_,rfl,rfl,λs fa w' hΦ hF hB K hK=>?_⟩;replace hF:=hF.cons (hB.val 9 _ 99 _ rfl rfl rfl rfl);replace hF:=hF.cons (hB.val 11 _ 101 _ rfl rfl rfl rfl);exact aB rfl rfl rfl (gK (j:=(ah b).length-1) TfR.sl26 (hF.ev rfl) hA_102 (hF.ev rfl) ω ω) hK
   ·
    refine .inr (.inl ⟨rfl,_,_,rfl,rfl, ?_,trivial⟩)
    ·
     intro fa w' hΦ hF hB K hK;obtain⟨hA,hS,E_w'⟩:=hΦ;replace hF:=hF.cons (hB.val 12 _ 102 _ rfl rfl rfl rfl);exact aB rfl rfl rfl (aaT TfR.one154 (hF.ev rfl) (hq_102 E_w')) hK
   ·
    refine .inl ⟨rfl,_,_,rfl,rfl,λs fa w' hΦ hF hB K hK=>?_⟩;replace hF:=hF.cons (hB.val 13 _ 103 _ rfl rfl rfl rfl);exact aB rfl rfl rfl (aaJ TfR.unds154 TfR.und152 (hF.ev rfl) (iI ω)) hK
   ·
    refine .inl ⟨rfl,_,_,rfl,rfl,λs fa w' hΦ hF hB K hK=>?_⟩;replace hF:=hF.cons (hB.val 8 _ 98 _ rfl rfl rfl rfl);replace hF:=hF.cons (hB.val 14 _ 104 _ rfl rfl rfl rfl);exact aB rfl rfl rfl (ad2 (hF.ev rfl) (hF.ev rfl) ω (BQ (x:=((U.getD (j-1+(ah b).length) 0)*1000000000)+(U.getD (j-1+(ah b).length-1) 0)) (y:=(ah o_91).getD ((ah b).length-1) 0) ω ω)) hK
   ·
    refine .inl ⟨rfl,_,_,rfl,rfl,λs fa w' hΦ hF hB K hK=>?_⟩;replace hF:=hF.cons (hB.val 7 _ 97 _ rfl rfl rfl rfl);exact aB rfl rfl rfl (abM (hF.ev rfl)) hK
   ·
    refine .inl ⟨rfl,_,_,rfl,rfl,λs fa w' hΦ hF hB K hK=>?_⟩;replace hF:=hF.cons (hB.val 15 _ 105 _ rfl rfl rfl rfl);exact aB rfl rfl rfl (abM (hF.ev rfl)) hK
  intro fa w114 hΦ hF hC;obtain⟨hA,hS,E_w114⟩:=hΦ;replace hF:=hF.cons (hC 16 _ 13 _ rfl rfl rfl);replace hF:=hF.cons (hC 17 _ 14 _ rfl rfl rfl);clear hA hC;refine aaG ?_;refine TW (λfa w'=>∃gs:Nat,Frm 179 fa [(0,(.slice (A4) ((ah a).length) (c5))),(1,(.slice (A10) ((ah b).length) (c11))),(4,(.slice (none) (0) (0))),(5,(.slice (none) (0) (0))),(23,(.bool (decide ((((ah b).length:Nat):Int)=1)))),(34,(.bool (decide ((dD (val ((ah a))) (val ((ah b))))<0)))),(6,(.int .i64 ((((ah b).length:Nat):Int)))),(7,(.int .u32 (((sc:Nat):Int)))),(8,(.slice (some ⟨g75,0,none⟩) ((ah a).length+2) (c76))),(9,(.slice (A103) ((ah o_91).length) (c104))),(10,(.slice (some ⟨g106,0,none⟩) (((ah a).length+2)-((ah b).length)) (((ah a).length+2)-((ah b).length)))),(11,(.int .i64 (((j:Nat):Int)-1))),(70,(.bool (decide ((((j:Nat):Int)-1)>=0)))),(12,(.int .u64 ((((U.getD (j-1+(ah b).length) 0:Nat):Int)*1000000000)+((U.getD (j-1+(ah b).length-1) 0:Nat):Int)))),(13,(.int .u64 (((gs:Nat):Int))))]/\St w w' [(g106,154,(us (Q)).toArray),(g75,154,(us (U)++R77).toArray)]/\Ext w114 (g106 ::(g75::X)) w' (g106 ::(g75::X))/\(gs<1000000000)/\(gs*val (ah o_91)<=val (win U (j-1) ((ah b).length+1))+val (ah o_91))/\(val (win U (j-1) ((ah b).length+1))<(gs+1)*val (ah o_91))) ?_ ?_
  ·
   refine aa8 ?_;refine oW (λmu fa w'=>∃g:Nat,∃r:Nat,Frm 179 fa [(0,(.slice (A4) ((ah a).length) (c5))),(1,(.slice (A10) ((ah b).length) (c11))),(4,(.slice (none) (0) (0))),(5,(.slice (none) (0) (0))),(23,(.bool (decide ((((ah b).length:Nat):Int)=1)))),(34,(.bool (decide ((dD (val ((ah a))) (val ((ah b))))<0)))),(6,(.int .i64 ((((ah b).length:Nat):Int)))),(7,(.int .u32 (((sc:Nat):Int)))),(8,(.slice (some ⟨g75,0,none⟩) ((ah a).length+2) (c76))),(9,(.slice (A103) ((ah o_91).length) (c104))),(10,(.slice (some ⟨g106,0,none⟩) (((ah a).length+2)-((ah b).length)) (((ah a).length+2)-((ah b).length)))),(11,(.int .i64 (((j:Nat):Int)-1))),(70,(.bool (decide ((((j:Nat):Int)-1)>=0)))),(12,(.int .u64 ((((U.getD (j-1+(ah b).length) 0:Nat):Int)*1000000000)+((U.getD (j-1+(ah b).length-1) 0:Nat):Int)))),(13,(.int .u64 (((g:Nat):Int)))),(14,(.int .u64 (((r:Nat):Int))))]/\St w w' [(g106,154,(us (Q)).toArray),(g75,154,(us (U)++R77).toArray)]/\Ext w114 (g106 ::(g75::X)) w' (g106 ::(g75::X))/\(g*(ah o_91).getD ((ah b).length-1) 0+r=U.getD (j-1+(ah b).length) 0*1000000000+U.getD (j-1+(ah b).length-1) 0)/\(r<1000000000)/\(g<=1000000001)/\(val (win U (j-1) ((ah b).length+1))<(g+1)*val (ah o_91))/\g=mu) ?_ ?_
   ·
    exact⟨_,(((U.getD (j-1+(ah b).length) 0)*1000000000)+(U.getD (j-1+(ah b).length-1) 0))/((ah o_91).getD ((ah b).length-1) 0),(((U.getD (j-1+(ah b).length) 0)*1000000000)+(U.getD (j-1+(ah b).length-1) 0))%((ah o_91).getD ((ah b).length-1) 0),(hF.all ⟨rfl,rfl,rfl,rfl,rfl,rfl,rfl,rfl,rfl,rfl,rfl,rfl,rfl,rfl,(aJ rfl ω),(aJ rfl ω),trivial⟩),hS,Ext.refl _ _,(by rw[wU];exact Nat.div_add_mod _ _),(xE (oO _ ω) ω),((DW hdw hn2 hvn hvb hbU hvtop rfl).2),((DW hdw hn2 hvn hvb hbU hvtop rfl).1),rfl⟩
   clear hF fa;intro n1_ fa w' hI;clear hS;obtain⟨g,r,hF,hS,E118,hgr,hrb,hgb,hgw,rfl⟩:=hI
   rename World=>w117
   have hgm:g*(ah o_91).getD ((ah b).length-2) 0<=1000000001*999999999:=Eb hgb (by have:=hvL ((ah b).length-2);omega);refine aak ?_;refine aak ?_;rcases Bool.eq_false_or_eq_true (decide (((g:Nat):Int)>=1000000000))with hk119|hk119
   ·
    have hk119p:=hk119;simp at hk119p;have hgB:=of_decide_eq_true hk119;have hgp:0<g:=ω
    have hw1:=QG (g:=g) hdw ω
    refine wQ (N:=179) (L0:=[(0,(.slice (A4) ((ah a).length) (c5))),(1,(.slice (A10) ((ah b).length) (c11))),(4,(.slice (none) (0) (0))),(5,(.slice (none) (0) (0))),(23,(.bool (decide ((((ah b).length:Nat):Int)=1)))),(34,(.bool (decide ((dD (val ((ah a))) (val ((ah b))))<0)))),(6,(.int .i64 ((((ah b).length:Nat):Int)))),(7,(.int .u32 (((sc:Nat):Int)))),(8,(.slice (some ⟨g75,0,none⟩) ((ah a).length+2) (c76))),(9,(.slice (A103) ((ah o_91).length) (c104))),(10,(.slice (some ⟨g106,0,none⟩) (((ah a).length+2)-((ah b).length)) (((ah a).length+2)-((ah b).length)))),(11,(.int .i64 (((j:Nat):Int)-1))),(70,(.bool (decide ((((j:Nat):Int)-1)>=0)))),(12,(.int .u64 ((((U.getD (j-1+(ah b).length) 0:Nat):Int)*1000000000)+((U.getD (j-1+(ah b).length-1) 0:Nat):Int)))),(13,(.int .u64 (((g:Nat):Int)))),(14,(.int .u64 (((r:Nat):Int))))]) [some (.int .u64 (((g:Nat):Int))),some (.bool (true)),some (.bool (true)),some undef,some undef,some undef,some undef,some undef,some undef,some undef,some undef,some undef,some undef,some undef,some undef,some undef,some undef,some undef,some undef,some undef,some undef,some undef,some undef,some (.bool (true))] [] [[]] [[0],[0],[0],[0],[0],[0],[0],[0],[0],[0],[0],[0],[0],[0],[0],[0],[0],[0],[0],[0],[0],[0],[0],[0]] 0 [
     λfa w'=>Frm 179 fa []/\St w w' [(g106,154,(us (Q)).toArray),(g75,154,(us (U)++R77).toArray)]/\Ext w117 (g106 ::(g75::X)) w' (g106 ::(g75::X))
     ] TfR.mixed rfl rfl rfl rfl rfl rfl (hF.all ⟨rfl,rfl,rfl,rfl,rfl,rfl,rfl,rfl,rfl,rfl,rfl,rfl,rfl,rfl,rfl,rfl,trivial⟩) rfl ⟨hF.nil,hS.drew,Ext.drew _ _⟩ ?_ ?_ ?_
    all_goals clear hF fa
    ·
     refine⟨?_,trivial⟩
     ·
      rintro fa w' i o d v ho hd hna ⟨hA,hR⟩;exact⟨hA.put_other v (jy (acts:=[]) rfl ho hd hna),hR⟩
    ·
     refine⟨?_, ?_, ?_, ?_, ?_, ?_, ?_, ?_, ?_, ?_, ?_, ?_, ?_, ?_, ?_, ?_, ?_, ?_, ?_, ?_, ?_, ?_, ?_, ?_,trivial⟩
     ·
      refine .inl ⟨rfl,_,_,rfl,rfl,λs fa w' hΦ hF hB K hK=>?_⟩;exact aB rfl rfl rfl (aaw (hF.ev rfl)) hK
     ·
      refine .inl ⟨rfl,_,_,rfl,rfl,λs fa w' hΦ hF hB K hK=>?_⟩;replace hF:=hF.cons (hB.val 0 _ 106 _ rfl rfl rfl rfl);exact aB rfl rfl rfl (UR hk119 (acF (hF.ev rfl) (hF.ev rfl))) hK
     ·
      refine .inl ⟨rfl,_,_,rfl,rfl,λs fa w' hΦ hF hB K hK=>?_⟩;replace hF:=hF.cons (hB.val 1 _ 107 _ rfl rfl rfl rfl);exact aB rfl rfl rfl (aaw (hF.ev rfl)) hK
     ·
      refine .inl ⟨rfl,_,_,rfl,rfl,λs fa w' hΦ hF hB K hK=>?_⟩;replace hF:=hF.cons (hB.val 2 _ 108 _ rfl rfl rfl rfl);exact bK hF rfl rfl rfl rfl rfl hK
     ·
      refine .inl ⟨rfl,_,_,rfl,rfl,λs fa w' hΦ hF hB K hK=>?_⟩;replace hF:=hF.cons (hB.val 2 _ 108 _ rfl rfl rfl rfl);exact bK hF rfl rfl rfl rfl rfl hK
     ·
      refine .inl ⟨rfl,_,_,rfl,rfl,λs fa w' hΦ hF hB K hK=>?_⟩;replace hF:=hF.cons (hB.val 2 _ 108 _ rfl rfl rfl rfl);exact bK hF rfl rfl rfl rfl rfl hK
     ·
      refine .inl ⟨rfl,_,_,rfl,rfl,λs fa w' hΦ hF hB K hK=>?_⟩;replace hF:=hF.cons (hB.val 5 _ 111 _ rfl rfl rfl rfl);replace hF:=hF.cons (hB.val 2 _ 108 _ rfl rfl rfl rfl);exact bK hF rfl rfl rfl rfl rfl hK
     ·
      refine .inl ⟨rfl,_,_,rfl,rfl,λs fa w' hΦ hF hB K hK=>?_⟩;replace hF:=hF.cons (hB.val 4 _ 110 _ rfl rfl rfl rfl);replace hF:=hF.cons (hB.val 6 _ 112 _ rfl rfl rfl rfl);replace hF:=hF.cons (hB.val 2 _ 108 _ rfl rfl rfl rfl);exact bK hF rfl rfl rfl rfl rfl hK
     ·
      refine .inl ⟨rfl,_,_,rfl,rfl,λs fa w' hΦ hF hB K hK=>?_⟩;replace hF:=hF.cons (hB.val 7 _ 113 _ rfl rfl rfl rfl);replace hF:=hF.cons (hB.val 2 _ 108 _ rfl rfl rfl rfl);exact bK hF rfl rfl rfl rfl rfl hK
     ·
      refine .inl ⟨rfl,_,_,rfl,rfl,λs fa w' hΦ hF hB K hK=>?_⟩;replace hF:=hF.cons (hB.val 8 _ 114 _ rfl rfl rfl rfl);replace hF:=hF.cons (hB.val 2 _ 108 _ rfl rfl rfl rfl);exact bK hF rfl rfl rfl rfl rfl hK
     ·
      refine .inl ⟨rfl,_,_,rfl,rfl,λs fa w' hΦ hF hB K hK=>?_⟩;replace hF:=hF.cons (hB.val 3 _ 109 _ rfl rfl rfl rfl);replace hF:=hF.cons (hB.val 9 _ 115 _ rfl rfl rfl rfl);replace hF:=hF.cons (hB.val 2 _ 108 _ rfl rfl rfl rfl);exact bK hF rfl rfl rfl rfl rfl hK
     ·
      refine .inl ⟨rfl,_,_,rfl,rfl,λs fa w' hΦ hF hB K hK=>?_⟩;replace hF:=hF.cons (hB.val 2 _ 108 _ rfl rfl rfl rfl);exact bK hF rfl rfl rfl rfl rfl hK
     ·
      refine .inl ⟨rfl,_,_,rfl,rfl,λs fa w' hΦ hF hB K hK=>?_⟩;replace hF:=hF.cons (hB.val 11 _ 117 _ rfl rfl rfl rfl);replace hF:=hF.cons (hB.val 2 _ 108 _ rfl rfl rfl rfl);exact bK hF rfl rfl rfl rfl rfl hK
     ·
      refine .inl ⟨rfl,_,_,rfl,rfl,λs fa w' hΦ hF hB K hK=>?_⟩;replace hF:=hF.cons (hB.val 2 _ 108 _ rfl rfl rfl rfl);exact bK hF rfl rfl rfl rfl rfl hK
     ·
      refine .inl ⟨rfl,_,_,rfl,rfl,λs fa w' hΦ hF hB K hK=>?_⟩;replace hF:=hF.cons (hB.val 2 _ 108 _ rfl rfl rfl rfl);exact bK hF rfl rfl rfl rfl rfl hK
     ·
      refine .inl ⟨rfl,_,_,rfl,rfl,λs fa w' hΦ hF hB K hK=>?_⟩;replace hF:=hF.cons (hB.val 2 _ 108 _ rfl rfl rfl rfl);exact bK hF rfl rfl rfl rfl rfl hK
     ·
      refine .inl ⟨rfl,_,_,rfl,rfl,λs fa w' hΦ hF hB K hK=>?_⟩;replace hF:=hF.cons (hB.val 14 _ 120 _ rfl rfl rfl rfl);replace hF:=hF.cons (hB.val 15 _ 121 _ rfl rfl rfl rfl);replace hF:=hF.cons (hB.val 2 _ 108 _ rfl rfl rfl rfl);exact bK hF rfl rfl rfl rfl rfl hK
     ·
      refine .inl ⟨rfl,_,_,rfl,rfl,λs fa w' hΦ hF hB K hK=>?_⟩;replace hF:=hF.cons (hB.val 16 _ 122 _ rfl rfl rfl rfl);replace hF:=hF.cons (hB.val 2 _ 108 _ rfl rfl rfl rfl);exact bK hF rfl rfl rfl rfl rfl hK
     ·
      refine .inl ⟨rfl,_,_,rfl,rfl,λs fa w' hΦ hF hB K hK=>?_⟩;replace hF:=hF.cons (hB.val 13 _ 119 _ rfl rfl rfl rfl);replace hF:=hF.cons (hB.val 17 _ 123 _ rfl rfl rfl rfl);replace hF:=hF.cons (hB.val 2 _ 108 _ rfl rfl rfl rfl);exact bK hF rfl rfl rfl rfl rfl hK
     ·
      refine .inl ⟨rfl,_,_,rfl,rfl,λs fa w' hΦ hF hB K hK=>?_⟩;replace hF:=hF.cons (hB.val 18 _ 124 _ rfl rfl rfl rfl);replace hF:=hF.cons (hB.val 2 _ 108 _ rfl rfl rfl rfl);exact bK hF rfl rfl rfl rfl rfl hK
     ·
      refine .inl ⟨rfl,_,_,rfl,rfl,λs fa w' hΦ hF hB K hK=>?_⟩;replace hF:=hF.cons (hB.val 19 _ 125 _ rfl rfl rfl rfl);replace hF:=hF.cons (hB.val 2 _ 108 _ rfl rfl rfl rfl);exact bK hF rfl rfl rfl rfl rfl hK
     ·
      refine .inl ⟨rfl,_,_,rfl,rfl,λs fa w' hΦ hF hB K hK=>?_⟩;replace hF:=hF.cons (hB.val 12 _ 118 _ rfl rfl rfl rfl);replace hF:=hF.cons (hB.val 20 _ 126 _ rfl rfl rfl rfl);replace hF:=hF.cons (hB.val 2 _ 108 _ rfl rfl rfl rfl);exact bK hF rfl rfl rfl rfl rfl hK
     ·
      refine .inl ⟨rfl,_,_,rfl,rfl,λs fa w' hΦ hF hB K hK=>?_⟩;replace hF:=hF.cons (hB.val 10 _ 116 _ rfl rfl rfl rfl);replace hF:=hF.cons (hB.val 21 _ 127 _ rfl rfl rfl rfl);replace hF:=hF.cons (hB.val 2 _ 108 _ rfl rfl rfl rfl);exact bK hF rfl rfl rfl rfl rfl hK
     ·
      refine .inl ⟨rfl,_,_,rfl,rfl,λs fa w' hΦ hF hB K hK=>?_⟩;replace hF:=hF.cons (hB.val 2 _ 108 _ rfl rfl rfl rfl);replace hF:=hF.cons (hB.val 22 _ 128 _ rfl rfl rfl rfl);exact aB rfl rfl rfl (qX (hF.ev rfl) (λ_=>hF.ev rfl) (v:=undef) (λh=>by cases h) rfl) hK
    intro fa w120 hΦ hF hC;obtain⟨hA,hS,E_w120⟩:=hΦ;replace hF:=hF.cons (hC 23 _ 129 _ rfl rfl rfl);clear hA hC;refine aaG ?_;refine dS hF rfl (λhc=>?_) (λhc=>?_)
    rotate_left
    ·
     cases hc
    refine aa1 ?_;refine aaG ?_;refine aa8 ?_;refine aak ?_;refine aal ?_;refine pr hF (pm rfl <| pg (λ_ hF=>aaQ (hF.ev rfl) (hF.ev rfl) iG) <| pa rfl <| PR.nil) ?_;clear hF fa;intro fa hF;refine aj ?_;refine aak ?_;refine aal ?_;refine pr hF (pm rfl <| pm rfl <| pm rfl <| pg (λ_ hF=>aaQ (hF.ev rfl) (hF.ev rfl) eH) <| PR.nil) ?_;clear hF fa;intro fa hF;obtain⟨ad121,hA122,hq123⟩:=(hu105.ext (((((E108.trans E111).trans E_w113).trans E_w114).trans E118).trans E_w120)).cl.at_ (gI (l:=(ah o_91)) (i:=(ah b).length-1) ω);refine pr hF (pg (λ_ hF=>gK (j:=(ah b).length-1) TfR.sl26 (hF.ev rfl) hA122 (hF.ev rfl) ω ω) <| pg (λ_ hF=>aaT TfR.one154 (hF.ev rfl) hq123) <| pg (λ_ hF=>aaJ TfR.unds154 TfR.und152 (hF.ev rfl) (iI ω)) <| pg (λ_ hF=>aaC (hF.ev rfl) (hF.ev rfl) iG) <| pa rfl <| PR.nil) ?_;clear hF fa;intro fa hF;replace hF:Frm 179 fa [(0,(.slice (A4) ((ah a).length) (c5))),(1,(.slice (A10) ((ah b).length) (c11))),(4,(.slice (none) (0) (0))),(5,(.slice (none) (0) (0))),(23,(.bool (decide ((((ah b).length:Nat):Int)=1)))),(34,(.bool (decide ((dD (val ((ah a))) (val ((ah b))))<0)))),(6,(.int .i64 ((((ah b).length:Nat):Int)))),(7,(.int .u32 (((sc:Nat):Int)))),(8,(.slice (some ⟨g75,0,none⟩) ((ah a).length+2) (c76))),(9,(.slice (A103) ((ah o_91).length) (c104))),(10,(.slice (some ⟨g106,0,none⟩) (((ah a).length+2)-((ah b).length)) (((ah a).length+2)-((ah b).length)))),(11,(.int .i64 (((j:Nat):Int)-1))),(70,(.bool (decide ((((j:Nat):Int)-1)>=0)))),(12,(.int .u64 ((((U.getD (j-1+(ah b).length) 0:Nat):Int)*1000000000)+((U.getD (j-1+(ah b).length-1) 0:Nat):Int)))),(13,(.int .u64 (((g:Nat):Int)-1))),(14,(.int .u64 (((r:Nat):Int)+(((ah o_91).getD ((ah b).length-1) 0:Nat):Int)))),(129,(.bool (true)))]:=(hF.all ⟨rfl,rfl,rfl,rfl,rfl,rfl,rfl,rfl,rfl,rfl,rfl,rfl,rfl,rfl,rfl,rfl,rfl,trivial⟩)
    refine aj ?_;refine aak ?_;refine aal ?_;refine pr hF (pm rfl <| pg (λ_ hF=>acF (hF.ev rfl) (hF.ev rfl)) <| PR.nil) ?_;clear hF fa;intro fa hF;refine aj ?_;refine dS hF rfl (λhc124=>?_) (λhc124=>?_)
    ·
     have hc124p:(((r:Nat):Int)+(((ah o_91).getD ((ah b).length-1) 0:Nat):Int))>=1000000000:=by first|simpa using hc124|exact aW hc124|exact aX hc124
     have hgr1:=D9 hgp hgr;have hout:=Hw (w2:=U.getD (j-1+(ah b).length-2) 0) hgr1 htl ω (hvL ((ah b).length-2)) rfl;refine acr ?_;refine aiX rfl ?_;refine acG ?_;refine afl ?_;refine aaG ?_;exact⟨(g-1),(hF.all ⟨rfl,rfl,rfl,rfl,rfl,rfl,rfl,rfl,rfl,rfl,rfl,rfl,rfl,rfl,(aJ rfl ω),trivial⟩),hS,(E118.trans E_w120),(hout.1),(BL hn2 hvn hvb hvtop hgr1 hout.1 hout.2),(by rw[Nat.sub_add_cancel hgp];exact hw1)⟩
    have hc124p:¬((((r:Nat):Int)+(((ah o_91).getD ((ah b).length-1) 0:Nat):Int))>=1000000000):=by first|simpa using hc124|exact aW hc124|exact aX hc124
    refine aa1 ?_;refine acV ?_;refine aaG ?_;exact⟨_,ω,(g-1),r+((ah o_91).getD ((ah b).length-1) 0),(hF.all ⟨rfl,rfl,rfl,rfl,rfl,rfl,rfl,rfl,rfl,rfl,rfl,rfl,rfl,rfl,(aJ rfl ω),(aJ rfl ω),trivial⟩),hS,(E118.trans E_w120),(D9 hgp hgr),ω,ω,(by rw[Nat.sub_add_cancel hgp];exact hw1),rfl⟩
   have hk119p:=hk119;simp at hk119p;have hgB:g<1000000000:=by have:=of_decide_eq_false hk119;omega
   obtain⟨ad_113,hA_113,hq_113⟩:=(hu105.ext ((((E108.trans E111).trans E_w113).trans E_w114).trans E118)).cl.at2 (gI (l:=(ah o_91)) (i:=(ah b).length-2) ω)
   refine wQ (N:=179) (L0:=[(0,(.slice (A4) ((ah a).length) (c5))),(1,(.slice (A10) ((ah b).length) (c11))),(4,(.slice (none) (0) (0))),(5,(.slice (none) (0) (0))),(23,(.bool (decide ((((ah b).length:Nat):Int)=1)))),(34,(.bool (decide ((dD (val ((ah a))) (val ((ah b))))<0)))),(6,(.int .i64 ((((ah b).length:Nat):Int)))),(7,(.int .u32 (((sc:Nat):Int)))),(8,(.slice (some ⟨g75,0,none⟩) ((ah a).length+2) (c76))),(9,(.slice (A103) ((ah o_91).length) (c104))),(10,(.slice (some ⟨g106,0,none⟩) (((ah a).length+2)-((ah b).length)) (((ah a).length+2)-((ah b).length)))),(11,(.int .i64 (((j:Nat):Int)-1))),(70,(.bool (decide ((((j:Nat):Int)-1)>=0)))),(12,(.int .u64 ((((U.getD (j-1+(ah b).length) 0:Nat):Int)*1000000000)+((U.getD (j-1+(ah b).length-1) 0:Nat):Int)))),(13,(.int .u64 (((g:Nat):Int)))),(14,(.int .u64 (((r:Nat):Int))))]) [some (.int .u64 (((g:Nat):Int))),some (.bool (false)),some (.bool (false)),some (.int .u64 (((g:Nat):Int))),some (.slice (A103) ((ah o_91).length) (c104)),some (.int .i64 ((((ah b).length:Nat):Int))),some (.int .i64 ((((ah b).length:Nat):Int)-2)),some (.pointer (some (ad_113.add ((ah b).length-2)))),some (.int .u32 ((((ah o_91).getD ((ah b).length-2) 0:Nat):Int))),some (.int .u64 ((((ah o_91).getD ((ah b).length-2) 0:Nat):Int))),some (.int .u64 (((g:Nat):Int)*(((ah o_91).getD ((ah b).length-2) 0:Nat):Int))),some (.int .u64 (((r:Nat):Int))),some (.int .u64 (((r:Nat):Int)*1000000000)),some (.slice (some ⟨g75,0,none⟩) ((ah a).length+2) (c76)),some (.int .i64 (((j:Nat):Int)-1)),some (.int .i64 ((((ah b).length:Nat):Int))),some (.int .i64 ((((j:Nat):Int)-1)+(((ah b).length:Nat):Int))),some (.int .i64 (((((j:Nat):Int)-1)+(((ah b).length:Nat):Int))-2)),some (.pointer (some ⟨g75,j-1+(ah b).length-2,none⟩)),some (.int .u32 (((U.getD (j-1+(ah b).length-2) 0:Nat):Int))),some (.int .u64 (((U.getD (j-1+(ah b).length-2) 0:Nat):Int))),some (.int .u64 ((((r:Nat):Int)*1000000000)+((U.getD (j-1+(ah b).length-2) 0:Nat):Int))),some (.bool (decide ((((g:Nat):Int)*(((ah o_91).getD ((ah b).length-2) 0:Nat):Int))>((((r:Nat):Int)*1000000000)+((U.getD (j-1+(ah b).length-2) 0:Nat):Int))))),some (.bool (decide ((((g:Nat):Int)*(((ah o_91).getD ((ah b).length-2) 0:Nat):Int))>((((r:Nat):Int)*1000000000)+((U.getD (j-1+(ah b).length-2) 0:Nat):Int)))))] [] [[]] [[0],[0],[0],[0],[0],[0],[0],[0],[0],[0],[0],[0],[0],[0],[0],[0],[0],[0],[0],[0],[0],[0],[0],[0]] 0 [
    λfa w'=>Frm 179 fa []/\St w w' [(g106,154,(us (Q)).toArray),(g75,154,(us (U)++R77).toArray)]/\Ext w117 (g106 ::(g75::X)) w' (g106 ::(g75::X))
    ] TfR.mixed rfl rfl rfl rfl rfl rfl (hF.all ⟨rfl,rfl,rfl,rfl,rfl,rfl,rfl,rfl,rfl,rfl,rfl,rfl,rfl,rfl,rfl,rfl,trivial⟩) rfl ⟨hF.nil,hS.drew,Ext.drew _ _⟩ ?_ ?_ ?_
   all_goals clear hF fa
   ·
    refine⟨?_,trivial⟩
    ·
     rintro fa w' i o d v ho hd hna ⟨hA,hR⟩;exact⟨hA.put_other v (jy (acts:=[]) rfl ho hd hna),hR⟩
   ·
    refine⟨?_, ?_, ?_, ?_, ?_, ?_, ?_, ?_, ?_, ?_, ?_, ?_, ?_, ?_, ?_, ?_, ?_, ?_, ?_, ?_, ?_, ?_, ?_, ?_,trivial⟩
    ·
     refine .inl ⟨rfl,_,_,rfl,rfl,λs fa w' hΦ hF hB K hK=>?_⟩;exact aB rfl rfl rfl (aaw (hF.ev rfl)) hK
    ·
     refine .inl ⟨rfl,_,_,rfl,rfl,λs fa w' hΦ hF hB K hK=>?_⟩;replace hF:=hF.cons (hB.val 0 _ 106 _ rfl rfl rfl rfl);exact aB rfl rfl rfl (UR hk119 (acF (hF.ev rfl) (hF.ev rfl))) hK
    ·
     refine .inl ⟨rfl,_,_,rfl,rfl,λs fa w' hΦ hF hB K hK=>?_⟩;replace hF:=hF.cons (hB.val 1 _ 107 _ rfl rfl rfl rfl);exact aB rfl rfl rfl (aaw (hF.ev rfl)) hK
    ·
     refine .inl ⟨rfl,_,_,rfl,rfl,λs fa w' hΦ hF hB K hK=>?_⟩;replace hF:=hF.cons (hB.val 2 _ 108 _ rfl rfl rfl rfl);exact bP hF rfl rfl rfl rfl (aaw (hF.ev rfl)) hK
    ·
     refine .inl ⟨rfl,_,_,rfl,rfl,λs fa w' hΦ hF hB K hK=>?_⟩;replace hF:=hF.cons (hB.val 2 _ 108 _ rfl rfl rfl rfl);exact bP hF rfl rfl rfl rfl (aaw (hF.ev rfl)) hK
    ·
     refine .inl ⟨rfl,_,_,rfl,rfl,λs fa w' hΦ hF hB K hK=>?_⟩;replace hF:=hF.cons (hB.val 2 _ 108 _ rfl rfl rfl rfl);exact bP hF rfl rfl rfl rfl (aaw (hF.ev rfl)) hK
    ·
     refine .inl ⟨rfl,_,_,rfl,rfl,λs fa w' hΦ hF hB K hK=>?_⟩;replace hF:=hF.cons (hB.val 5 _ 111 _ rfl rfl rfl rfl);replace hF:=hF.cons (hB.val 2 _ 108 _ rfl rfl rfl rfl);exact bP hF rfl rfl rfl rfl (aaQ (hF.ev rfl) (hF.ev rfl) eH) hK
    ·
     refine .inl ⟨rfl,_,_,rfl,rfl,λs fa w' hΦ hF hB K hK=>?_⟩;replace hF:=hF.cons (hB.val 4 _ 110 _ rfl rfl rfl rfl);replace hF:=hF.cons (hB.val 6 _ 112 _ rfl rfl rfl rfl);replace hF:=hF.cons (hB.val 2 _ 108 _ rfl rfl rfl rfl);exact bP hF rfl rfl rfl rfl (gK (j:=(ah b).length-2) TfR.sl26 (hF.ev rfl) hA_113 (hF.ev rfl) ω ω) hK
    ·
     refine .inr (.inl ⟨rfl,_,_,rfl,rfl, ?_,trivial⟩)
     ·
      intro fa w' hΦ hF hB K hK;obtain⟨hA,hS,E_w'⟩:=hΦ;replace hF:=hF.cons (hB.val 7 _ 113 _ rfl rfl rfl rfl);replace hF:=hF.cons (hB.val 2 _ 108 _ rfl rfl rfl rfl);exact bP hF rfl rfl rfl rfl (aaT TfR.one154 (hF.ev rfl) (hq_113 E_w')) hK
    ·
     refine .inl ⟨rfl,_,_,rfl,rfl,λs fa w' hΦ hF hB K hK=>?_⟩;replace hF:=hF.cons (hB.val 8 _ 114 _ rfl rfl rfl rfl);replace hF:=hF.cons (hB.val 2 _ 108 _ rfl rfl rfl rfl);exact bP hF rfl rfl rfl rfl (aaJ TfR.unds154 TfR.und152 (hF.ev rfl) (iI ω)) hK
    ·
     refine .inl ⟨rfl,_,_,rfl,rfl,λs fa w' hΦ hF hB K hK=>?_⟩;replace hF:=hF.cons (hB.val 3 _ 109 _ rfl rfl rfl rfl);replace hF:=hF.cons (hB.val 9 _ 115 _ rfl rfl rfl rfl);replace hF:=hF.cons (hB.val 2 _ 108 _ rfl rfl rfl rfl);exact bP hF rfl rfl rfl rfl (adp (hF.ev rfl) (hF.ev rfl) iG) hK
    ·
     refine .inl ⟨rfl,_,_,rfl,rfl,λs fa w' hΦ hF hB K hK=>?_⟩;replace hF:=hF.cons (hB.val 2 _ 108 _ rfl rfl rfl rfl);exact bP hF rfl rfl rfl rfl (aaw (hF.ev rfl)) hK
    ·
     refine .inl ⟨rfl,_,_,rfl,rfl,λs fa w' hΦ hF hB K hK=>?_⟩;replace hF:=hF.cons (hB.val 11 _ 117 _ rfl rfl rfl rfl);replace hF:=hF.cons (hB.val 2 _ 108 _ rfl rfl rfl rfl);exact bP hF rfl rfl rfl rfl (adp (hF.ev rfl) (hF.ev rfl) iG) hK
    ·
     refine .inl ⟨rfl,_,_,rfl,rfl,λs fa w' hΦ hF hB K hK=>?_⟩;replace hF:=hF.cons (hB.val 2 _ 108 _ rfl rfl rfl rfl);exact bP hF rfl rfl rfl rfl (aaw (hF.ev rfl)) hK
    ·
     refine .inl ⟨rfl,_,_,rfl,rfl,λs fa w' hΦ hF hB K hK=>?_⟩;replace hF:=hF.cons (hB.val 2 _ 108 _ rfl rfl rfl rfl);exact bP hF rfl rfl rfl rfl (aaw (hF.ev rfl)) hK
    ·
     refine .inl ⟨rfl,_,_,rfl,rfl,λs fa w' hΦ hF hB K hK=>?_⟩;replace hF:=hF.cons (hB.val 2 _ 108 _ rfl rfl rfl rfl);exact bP hF rfl rfl rfl rfl (aaw (hF.ev rfl)) hK
    ·
     refine .inl ⟨rfl,_,_,rfl,rfl,λs fa w' hΦ hF hB K hK=>?_⟩;replace hF:=hF.cons (hB.val 14 _ 120 _ rfl rfl rfl rfl);replace hF:=hF.cons (hB.val 15 _ 121 _ rfl rfl rfl rfl);replace hF:=hF.cons (hB.val 2 _ 108 _ rfl rfl rfl rfl);exact bP hF rfl rfl rfl rfl (aaC (hF.ev rfl) (hF.ev rfl) eH) hK
    ·
     refine .inl ⟨rfl,_,_,rfl,rfl,λs fa w' hΦ hF hB K hK=>?_⟩;replace hF:=hF.cons (hB.val 16 _ 122 _ rfl rfl rfl rfl);replace hF:=hF.cons (hB.val 2 _ 108 _ rfl rfl rfl rfl);exact bP hF rfl rfl rfl rfl (aaQ (hF.ev rfl) (hF.ev rfl) eH) hK
    ·
     refine .inl ⟨rfl,_,_,rfl,rfl,λs fa w' hΦ hF hB K hK=>?_⟩;replace hF:=hF.cons (hB.val 13 _ 119 _ rfl rfl rfl rfl);replace hF:=hF.cons (hB.val 17 _ 123 _ rfl rfl rfl rfl);replace hF:=hF.cons (hB.val 2 _ 108 _ rfl rfl rfl rfl);exact bP hF rfl rfl rfl rfl (iW (j:=j-1+(ah b).length-2) TfR.sl26 (hF.ev rfl) (hF.ev rfl) ω ω) hK
    ·
     refine .inr (.inl ⟨rfl,_,_,rfl,rfl, ?_,trivial⟩)
     ·
      intro fa w' hΦ hF hB K hK;obtain⟨hA,hS,E_w'⟩:=hΦ;replace hF:=hF.cons (hB.val 18 _ 124 _ rfl rfl rfl rfl);replace hF:=hF.cons (hB.val 2 _ 108 _ rfl rfl rfl rfl);exact bP hF rfl rfl rfl rfl (dG TfR.one154 (hF.ev rfl) (hS.get 1 rfl) (kZ (by first|omega|(simp;omega)))) hK
    ·
     refine .inl ⟨rfl,_,_,rfl,rfl,λs fa w' hΦ hF hB K hK=>?_⟩;replace hF:=hF.cons (hB.val 19 _ 125 _ rfl rfl rfl rfl);replace hF:=hF.cons (hB.val 2 _ 108 _ rfl rfl rfl rfl);exact bP hF rfl rfl rfl rfl (aaJ TfR.unds154 TfR.und152 (hF.ev rfl) (iI ω)) hK
    ·
     refine .inl ⟨rfl,_,_,rfl,rfl,λs fa w' hΦ hF hB K hK=>?_⟩;replace hF:=hF.cons (hB.val 12 _ 118 _ rfl rfl rfl rfl);replace hF:=hF.cons (hB.val 20 _ 126 _ rfl rfl rfl rfl);replace hF:=hF.cons (hB.val 2 _ 108 _ rfl rfl rfl rfl);exact bP hF rfl rfl rfl rfl (aaC (hF.ev rfl) (hF.ev rfl) iG) hK
    ·
     refine .inl ⟨rfl,_,_,rfl,rfl,λs fa w' hΦ hF hB K hK=>?_⟩;replace hF:=hF.cons (hB.val 10 _ 116 _ rfl rfl rfl rfl);replace hF:=hF.cons (hB.val 21 _ 127 _ rfl rfl rfl rfl);replace hF:=hF.cons (hB.val 2 _ 108 _ rfl rfl rfl rfl);exact bP hF rfl rfl rfl rfl (ae7 (hF.ev rfl) (hF.ev rfl)) hK
    ·
     refine .inl ⟨rfl,_,_,rfl,rfl,λs fa w' hΦ hF hB K hK=>?_⟩;replace hF:=hF.cons (hB.val 2 _ 108 _ rfl rfl rfl rfl);replace hF:=hF.cons (hB.val 22 _ 128 _ rfl rfl rfl rfl);exact aB rfl rfl rfl (qX (hF.ev rfl) (u:=undef) (λh=>by cases h) (λ_=>hF.ev rfl) rfl) hK
   intro fa w125 hΦ hF hC;obtain⟨hA,hS,E_w125⟩:=hΦ;replace hF:=hF.cons (hC 23 _ 129 _ rfl rfl rfl);clear hA hC;refine aaG ?_;refine dS hF rfl (λhc126=>?_) (λhc126=>?_)
   ·
    have hc126p:(((g:Nat):Int)*(((ah o_91).getD ((ah b).length-2) 0:Nat):Int))>((((r:Nat):Int)*1000000000)+((U.getD (j-1+(ah b).length-2) 0:Nat):Int)):=by first|simpa using hc126|exact aW hc126|exact aX hc126
    have hgv:g*(ah o_91).getD ((ah b).length-2) 0>r*1000000000+U.getD (j-1+(ah b).length-2) 0:=MN hc126p;have hgp:=Ug hgv;have hw1:=Nw hn2 hvn hbU hgr hgv;refine aa1 ?_;refine aaG ?_;refine aa8 ?_;refine aak ?_;refine aal ?_;refine pr hF (pm rfl <| pg (λ_ hF=>aaQ (hF.ev rfl) (hF.ev rfl) iG) <| pa rfl <| PR.nil) ?_;clear hF fa;intro fa hF;refine aj ?_;refine aak ?_;refine aal ?_;refine pr hF (pm rfl <| pm rfl <| pm rfl <| pg (λ_ hF=>aaQ (hF.ev rfl) (hF.ev rfl) eH) <| PR.nil) ?_;clear hF fa;intro fa hF;obtain⟨ad127,hA128,hq129⟩:=(hu105.ext (((((E108.trans E111).trans E_w113).trans E_w114).trans E118).trans E_w125)).cl.at_ (gI (l:=(ah o_91)) (i:=(ah b).length-1) ω);refine pr hF (pg (λ_ hF=>gK (j:=(ah b).length-1) TfR.sl26 (hF.ev rfl) hA128 (hF.ev rfl) ω ω) <| pg (λ_ hF=>aaT TfR.one154 (hF.ev rfl) hq129) <| pg (λ_ hF=>aaJ TfR.unds154 TfR.und152 (hF.ev rfl) (iI ω)) <| pg (λ_ hF=>aaC (hF.ev rfl) (hF.ev rfl) iG) <| pa rfl <| PR.nil) ?_;clear hF fa;intro fa hF;replace hF:Frm 179 fa [(0,(.slice (A4) ((ah a).length) (c5))),(1,(.slice (A10) ((ah b).length) (c11))),(4,(.slice (none) (0) (0))),(5,(.slice (none) (0) (0))),(23,(.bool (decide ((((ah b).length:Nat):Int)=1)))),(34,(.bool (decide ((dD (val ((ah a))) (val ((ah b))))<0)))),(6,(.int .i64 ((((ah b).length:Nat):Int)))),(7,(.int .u32 (((sc:Nat):Int)))),(8,(.slice (some ⟨g75,0,none⟩) ((ah a).length+2) (c76))),(9,(.slice (A103) ((ah o_91).length) (c104))),(10,(.slice (some ⟨g106,0,none⟩) (((ah a).length+2)-((ah b).length)) (((ah a).length+2)-((ah b).length)))),(11,(.int .i64 (((j:Nat):Int)-1))),(70,(.bool (decide ((((j:Nat):Int)-1)>=0)))),(12,(.int .u64 ((((U.getD (j-1+(ah b).length) 0:Nat):Int)*1000000000)+((U.getD (j-1+(ah b).length-1) 0:Nat):Int)))),(13,(.int .u64 (((g:Nat):Int)-1))),(14,(.int .u64 (((r:Nat):Int)+(((ah o_91).getD ((ah b).length-1) 0:Nat):Int)))),(129,(.bool (decide ((((g:Nat):Int)*(((ah o_91).getD ((ah b).length-2) 0:Nat):Int))>((((r:Nat):Int)*1000000000)+((U.getD (j-1+(ah b).length-2) 0:Nat):Int))))))]:=(hF.all ⟨rfl,rfl,rfl,rfl,rfl,rfl,rfl,rfl,rfl,rfl,rfl,rfl,rfl,rfl,rfl,rfl,rfl,trivial⟩)
    refine aj ?_;refine aak ?_;refine aal ?_;refine pr hF (pm rfl <| pg (λ_ hF=>acF (hF.ev rfl) (hF.ev rfl)) <| PR.nil) ?_;clear hF fa;intro fa hF;refine aj ?_;refine dS hF rfl (λhc130=>?_) (λhc130=>?_)
    ·
     have hc130p:(((r:Nat):Int)+(((ah o_91).getD ((ah b).length-1) 0:Nat):Int))>=1000000000:=by first|simpa using hc130|exact aW hc130|exact aX hc130
     have hgr1:=D9 hgp hgr;have hout:=Hw (w2:=U.getD (j-1+(ah b).length-2) 0) hgr1 htl ω (hvL ((ah b).length-2)) rfl;refine acr ?_;refine aiX rfl ?_;refine acG ?_;refine afl ?_;refine aaG ?_;exact⟨(g-1),(hF.all ⟨rfl,rfl,rfl,rfl,rfl,rfl,rfl,rfl,rfl,rfl,rfl,rfl,rfl,rfl,(aJ rfl ω),trivial⟩),hS,(E118.trans E_w125),(hout.1),(BL hn2 hvn hvb hvtop hgr1 hout.1 hout.2),(by rw[Nat.sub_add_cancel hgp];exact hw1)⟩
    have hc130p:¬((((r:Nat):Int)+(((ah o_91).getD ((ah b).length-1) 0:Nat):Int))>=1000000000):=by first|simpa using hc130|exact aW hc130|exact aX hc130
    refine aa1 ?_;refine acV ?_;refine aaG ?_;exact⟨_,ω,(g-1),r+((ah o_91).getD ((ah b).length-1) 0),(hF.all ⟨rfl,rfl,rfl,rfl,rfl,rfl,rfl,rfl,rfl,rfl,rfl,rfl,rfl,rfl,(aJ rfl ω),(aJ rfl ω),trivial⟩),hS,(E118.trans E_w125),(D9 hgp hgr),ω,ω,(by rw[Nat.sub_add_cancel hgp];exact hw1),rfl⟩
   have hc126p:¬((((g:Nat):Int)*(((ah o_91).getD ((ah b).length-2) 0:Nat):Int))>((((r:Nat):Int)*1000000000)+((U.getD (j-1+(ah b).length-2) 0:Nat):Int))):=by first|simpa using hc126|exact aW hc126|exact aX hc126
   refine acr ?_;refine acG ?_;refine acG ?_;refine afl ?_;refine aaG ?_;exact⟨(g),(hF.all ⟨rfl,rfl,rfl,rfl,rfl,rfl,rfl,rfl,rfl,rfl,rfl,rfl,rfl,rfl,(aJ rfl ω),trivial⟩),hS,(E118.trans E_w125),(hgB),(BL hn2 hvn hvb hvtop hgr hgB ω),(hgw)⟩
  clear hF fa hS;rintro fa w115 ⟨gs,hF,hS,E116,hgsB,hslo,hshi⟩;refine aak ?_;refine aak ?_;refine aal ?_;refine pr hF (pm rfl <| pm rfl <| pm rfl <| pm rfl <| pg (λ_ hF=>aaC (hF.ev rfl) (hF.ev rfl) eH) <| pg (λ_ hF=>aaC (hF.ev rfl) (hF.ev rfl) eH) <| pg (λ_ hF=>nN (j:=j-1) (m:=j-1+(ah b).length+1) (q:=(ah b).length+1) TfR.sl26 (hF.ev rfl) (hF.ev rfl) (hF.ev rfl) ω ω ω ω ω ω) <| pm rfl <| pm rfl <| PR.nil) ?_;clear hF fa;intro fa hF;replace hS:St w w115 [(g75,154,(us (U)++R77).toArray),(g106,154,(us (Q)).toArray)]:=hS.perm (List.Perm.swap _ _ _);have E131:Ext w115 (g106 ::(g75::X)) w115 (g75 ::(g106::X)):=Ext.drop (by simp +contextual);have hC:=lK (w:=w115) (X:=X) (So:=[(g106,154,(us (Q)).toArray)]) (v:=(ah o_91)) (U:=U) (c_U:=c76-(j-1)) hX hS (j-1) ((ah b).length+1) ⟨_,((ah o_91).length),_,rfl,(rfl),(hu105.ext (((((E108.trans E111).trans E_w113).trans E_w114).trans E116).trans E131))⟩ (gs) ω ω ω (hbU) (hvb) (hgsB);refine st rfl (fM hF rfl TfR.body232 (Td (hF.ev rfl) (hF.ev rfl) (hF.ev (dV (b:=((gs:Nat):Int)) rfl (by first|rfl|omega)))) hC ?_);clear hC hS;rintro _ w135 ⟨o_137,cy_138,rfl,hp139,hp140,hp141,hp142,hp143,hS,E136⟩;refine kF ?_;clear hF fa;intro fa hF;replace E136:Ext w115 (g75 ::(g106::X)) w135 (g75 ::(g106::X)):=E136;have hs_len:=hp139;have hs_lb:=hp140;have hs_tk:=hp141;have hs_dr:=hp142;have hs_v:=hp143;replace hF:Frm 179 fa [(0,(.slice (A4) ((ah a).length) (c5))),(1,(.slice (A10) ((ah b).length) (c11))),(4,(.slice (none) (0) (0))),(5,(.slice (none) (0) (0))),(23,(.bool (decide ((((ah b).length:Nat):Int)=1)))),(34,(.bool (decide ((dD (val ((ah a))) (val ((ah b))))<0)))),(6,(.int .i64 ((((ah b).length:Nat):Int)))),(7,(.int .u32 (((sc:Nat):Int)))),(8,(.slice (some ⟨g75,0,none⟩) ((ah a).length+2) (c76))),(9,(.slice (A103) ((ah o_91).length) (c104))),(10,(.slice (some ⟨g106,0,none⟩) (((ah a).length+2)-((ah b).length)) (((ah a).length+2)-((ah b).length)))),(11,(.int .i64 (((j:Nat):Int)-1))),(70,(.bool (decide ((((j:Nat):Int)-1)>=0)))),(12,(.int .u64 ((((U.getD (j-1+(ah b).length) 0:Nat):Int)*1000000000)+((U.getD (j-1+(ah b).length-1) 0:Nat):Int)))),(13,(.int .u64 (((gs:Nat):Int)))),(151,(.bool (decide (0<cy_138))))]:=(hF.all ⟨rfl,rfl,rfl,rfl,rfl,rfl,rfl,rfl,rfl,rfl,rfl,rfl,rfl,rfl,rfl,rfl,trivial⟩)
  refine aj ?_;refine dS hF rfl (λhc144=>?_) (λhc144=>?_)
  ·
   have hc144p:0<cy_138:=by first|simpa using hc144|exact aW hc144|exact aX hc144
   have hgs0:0<gs:=Np hs_v hc144p (pq hs_lb _ _);have hcyp:=hc144p;refine aak ?_;refine aal ?_;refine pr hF (pm rfl <| pg (λ_ hF=>aaQ (hF.ev rfl) (hF.ev rfl) iG) <| pa rfl <| PR.nil) ?_;clear hF fa;intro fa hF;refine aj ?_;refine aal ?_;refine pr hF (pm rfl <| pm rfl <| pm rfl <| pm rfl <| pg (λ_ hF=>aaC (hF.ev rfl) (hF.ev rfl) eH) <| pg (λ_ hF=>aaC (hF.ev rfl) (hF.ev rfl) eH) <| pg (λ_ hF=>nN (j:=j-1) (m:=j-1+(ah b).length+1) (q:=(ah b).length+1) TfR.sl26 (hF.ev rfl) (hF.ev rfl) (hF.ev rfl) ω ω ω ω ω ω) <| pm rfl <| PR.nil) ?_;clear hF fa;intro fa hF;have hC:=lY (w:=w135) (X:=X) (So:=[(g106,154,(us (Q)).toArray)]) (v:=(ah o_91)) (U:=o_137) (c_U:=c76-(j-1)) hX hS (j-1) ((ah b).length+1) ⟨_,((ah o_91).length),_,rfl,(rfl),(hu105.ext ((((((E108.trans E111).trans E_w113).trans E_w114).trans E116).trans E131).trans E136))⟩ ω ω ω (hs_lb) (hvb);refine st rfl (fM hF rfl TfR.body233 (args2 (hF.ev rfl) (hF.ev rfl)) hC ?_);clear hC hS;rintro _ w148 ⟨o_150,cy_151,rfl,hp152,hp153,hp154,hp155,hp156,hp157,hS,E149⟩;refine kF ?_;clear hF fa;intro fa hF;replace E149:Ext w135 (g75 ::(g106::X)) w148 (g75 ::(g106::X)):=E149;have hr_len:=hp152;have hr_lb:=hp153;have hr_tk:=hp154;have hr_dr:=hp155;have hr_v:=hp156;have hr_c:=hp157;have hdb:=FY hs_v hcyp (pq hs_lb _ _) hslo hVM hr_v (pq hr_lb _ _) hr_c;refine aj ?_;refine aal ?_;refine pr hF (pm rfl <| pm rfl <| pm rfl <| pg (λ_ hF=>aaJ TfR.unds152 TfR.und154 (hF.ev rfl) xk) <| pg (λ_ hF=>iW (j:=j-1) TfR.sl26 (hF.ev rfl) (hF.ev rfl) ω ω) <| PR.nil) ?_;clear hF fa;intro fa hF;refine st rfl (dP (vs:=#[.int .u32 ((gs-1:Nat):Int)]) (v:=.int .u32 ((gs-1:Nat):Int)) (X:=(g75 ::(g106::X))) hF hS 1 rfl η rfl (dV rfl ω) rfl TfR.size154 rfl (wC (by first|omega|(simp;omega))) ?_);intro w158 hS E159;rw[kU (by first|omega|(simp;omega))]at hS;replace hF:Frm 179 fa [(0,(.slice (A4) ((ah a).length) (c5))),(1,(.slice (A10) ((ah b).length) (c11))),(4,(.slice (none) (0) (0))),(5,(.slice (none) (0) (0))),(23,(.bool (decide ((((ah b).length:Nat):Int)=1)))),(34,(.bool (decide ((dD (val ((ah a))) (val ((ah b))))<0)))),(6,(.int .i64 ((((ah b).length:Nat):Int)))),(7,(.int .u32 (((sc:Nat):Int)))),(8,(.slice (some ⟨g75,0,none⟩) ((ah a).length+2) (c76))),(9,(.slice (A103) ((ah o_91).length) (c104))),(10,(.slice (some ⟨g106,0,none⟩) (((ah a).length+2)-((ah b).length)) (((ah a).length+2)-((ah b).length)))),(11,(.int .i64 (((j:Nat):Int)-1))),(70,(.bool (decide ((((j:Nat):Int)-1)>=0)))),(12,(.int .u64 ((((U.getD (j-1+(ah b).length) 0:Nat):Int)*1000000000)+((U.getD (j-1+(ah b).length-1) 0:Nat):Int)))),(13,(.int .u64 (((gs:Nat):Int)-1))),(151,(.bool (decide (0<cy_138))))]:=(hF.all ⟨rfl,rfl,rfl,rfl,rfl,rfl,rfl,rfl,rfl,rfl,rfl,rfl,rfl,rfl,rfl,rfl,trivial⟩)
   refine dX ?_;refine acV ?_;refine aaG ?_;refine aal ?_;refine pr hF (pm rfl <| pg (λ_ hF=>aaQ (hF.ev rfl) (hF.ev rfl) eH) <| pa rfl <| PR.nil) ?_;clear hF fa;intro fa hF;refine dX ?_;refine aaG ?_;replace hS:St w w158 [(g106,154,(us (Q.set (j-1) (gs-1))).toArray),(g75,154,(us (o_150)++R77).toArray)]:=hS.perm (List.Perm.swap _ _ _);have E160:Ext w158 (g75 ::(g106::X)) w158 (g106 ::(g75::X)):=Ext.drop (by simp +contextual);exact⟨_,ω,o_150,Q.set (j-1) (gs-1),(j-1),(hF.all ⟨rfl,rfl,rfl,rfl,rfl,rfl,rfl,rfl,rfl,rfl,rfl,(aJ rfl ω),trivial⟩),hS,((((((((E111.trans E_w113).trans E_w114).trans E116).trans E131).trans E136).trans E149).trans E159).trans E160),ω,(hr_len.trans (hs_len.trans hUl)),(hr_lb),κ,(dN hbQ ω),(DivInv.step (k:=j-1) (n:=(ah b).length) hI ω ω (hr_len.trans hs_len) ω (hr_tk.trans hs_tk) (hr_dr.trans hs_dr) hdw.rest rfl rfl hdb.2),rfl⟩
  have hc144p:¬(0<cy_138):=by first|simpa using hc144|exact aW hc144|exact aX hc144
  refine aa1 ?_;refine aaG ?_;refine aal ?_;refine pr hF (pm rfl <| pm rfl <| pm rfl <| pg (λ_ hF=>aaJ TfR.unds152 TfR.und154 (hF.ev rfl) (Dx ω)) <| pg (λ_ hF=>iW (j:=j-1) TfR.sl26 (hF.ev rfl) (hF.ev rfl) ω ω) <| PR.nil) ?_;clear hF fa;intro fa hF;refine st rfl (dP (vs:=#[.int .u32 ((gs:Nat):Int)]) (v:=.int .u32 ((gs:Nat):Int)) (X:=(g75 ::(g106::X))) hF hS 1 rfl η rfl (dV rfl ω) rfl TfR.size154 rfl (wC (by first|omega|(simp;omega))) ?_);intro w161 hS E162;rw[kU (by first|omega|(simp;omega))]at hS;refine dX ?_;refine acV ?_;refine aaG ?_;refine aal ?_;refine pr hF (pm rfl <| pg (λ_ hF=>aaQ (hF.ev rfl) (hF.ev rfl) eH) <| pa rfl <| PR.nil) ?_;clear hF fa;intro fa hF;refine dX ?_;refine aaG ?_;replace hS:St w w161 [(g106,154,(us (Q.set (j-1) (gs))).toArray),(g75,154,(us (o_137)++R77).toArray)]:=hS.perm (List.Perm.swap _ _ _);have E163:Ext w161 (g75 ::(g106::X)) w161 (g106 ::(g75::X)):=Ext.drop (by simp +contextual);exact⟨_,ω,o_137,Q.set (j-1) (gs),(j-1),(hF.all ⟨rfl,rfl,rfl,rfl,rfl,rfl,rfl,rfl,rfl,rfl,rfl,(aJ rfl ω),trivial⟩),hS,(((((((E111.trans E_w113).trans E_w114).trans E116).trans E131).trans E136).trans E162).trans E163),ω,(hs_len.trans hUl),(hs_lb),κ,(dN hbQ ω),(DivInv.step (k:=j-1) (n:=(ah b).length) hI ω ω hs_len ω hs_tk hs_dr hdw.rest rfl rfl (Ij hs_v ω hshi)),rfl⟩
 have hc112p:¬((((j:Nat):Int)-1)>=0):=by first|simpa using hc112|exact aW hc112|exact aX hc112
 refine acr ?_;refine acG ?_;refine acG ?_;refine afl ?_;refine aaG ?_;refine aak ?_;refine aal ?_;refine pr hF (pm rfl <| pm rfl <| pg (λ_ hF=>BM (j:=(ah b).length) TfR.sl26 (hF.ev rfl) (hF.ev rfl) ω ω) <| PR.nil) ?_;clear hF fa;intro fa hF;obtain⟨hS1,hn1⟩:=hS.out hX 1 rfl;have hu164:=UC.of_boxR (R:=R77) (c:=c76) (n:=(ah b).length) (L:=U) (hS.get 1 rfl) hn1 (by unfold maxLen;omega) (by first|omega|(simp;omega)) (by first|omega|(simp;omega));have E165:Ext w110 (g106 ::(g75::X)) w110 (g106::X):=Ext.drop (by simp +contextual);replace hu164:UC w110 (g106::X) (some ⟨g75,0,none⟩) (c76) (U.take ((ah b).length)):=hu164;replace hS:St w w110 [(g106,154,(us (Q)).toArray)]:=hS1;clear hn1;have hC:=fF (w:=w110) (X:=(g106::X)) (l:=(U.take ((ah b).length))) (hS.bnd hX) ⟨_,((ah b).length),_,rfl,(by rw[qy];omega),hu164⟩;refine st rfl (fM hF rfl TfR.body230 (args1 (hF.ev rfl)) hC ?_);clear hC;rintro _ w166 ⟨⟨A169,_,c170,rfl,rfl,hu171⟩,hb167⟩;refine kF ?_;clear hF fa;intro fa hF;replace hS:=hS.call hb167;have E168:=Ext.call (g106::X) hb167;refine pr hF (pm rfl <| PR.nil) ?_;clear hF fa;intro fa hF;have hC:=iZ (w:=w166) (X:=(g106::X)) (a:=(ah (U.take ((ah b).length)))) (hS.bnd hX) ⟨_,((ah (U.take ((ah b).length))).length),_,rfl,(rfl),hu171⟩ (sc) (by have:=cO (U.take (ah b).length);simp at this;omega) (jv (hbU.take _)) (hsc0) (hscB);refine st rfl (fM hF rfl TfR.body231 (args2 (hF.ev rfl) (hF.ev (dV (b:=((sc:Nat):Int)) rfl (by first|rfl|omega)))) hC ?_);clear hC;rintro _ w172 ⟨⟨qs_175,rs_176,_,_,rfl,⟨A177,_,c178,rfl,rfl,hu179⟩,⟨A180,_,c181,rfl,rfl,hu182⟩,hp183,hp184,hp185,hp186,hp187,hp188⟩,hb173⟩;refine kF ?_;clear hF fa;intro fa hF;replace hS:=hS.call hb173;have E174:=Ext.call (g106::X) hb173;have hw_lq:=hp183;have hw_v:=hp185;have hw_l:=hp186;have hw_q:=hp187;rw[bJ]at hw_v;refine pr hF (pm rfl <| px rfl rfl <| px rfl rfl <| pa rfl <| pa rfl <| PR.nil) ?_;clear hF fa;intro fa hF;replace hF:Frm 179 fa [(0,(.slice (A4) ((ah a).length) (c5))),(1,(.slice (A10) ((ah b).length) (c11))),(4,(.slice (none) (0) (0))),(5,(.slice (none) (0) (0))),(23,(.bool (decide ((((ah b).length:Nat):Int)=1)))),(34,(.bool (decide ((dD (val ((ah a))) (val ((ah b))))<0)))),(6,(.int .i64 ((((ah b).length:Nat):Int)))),(7,(.int .u32 (((sc:Nat):Int)))),(8,(.slice (some ⟨g75,0,none⟩) ((ah a).length+2) (c76))),(9,(.slice (A103) ((ah o_91).length) (c104))),(10,(.slice (some ⟨g106,0,none⟩) (((ah a).length+2)-((ah b).length)) (((ah a).length+2)-((ah b).length)))),(11,(.int .i64 (((j:Nat):Int)-1))),(70,(.bool (decide ((((j:Nat):Int)-1)>=0)))),(15,(.slice (A177) (qs_175.length) (c178)))]:=(hF.all ⟨rfl,rfl,rfl,rfl,rfl,rfl,rfl,rfl,rfl,rfl,rfl,rfl,rfl,rfl,trivial⟩)
 refine aj ?_;refine aak ?_;refine aal ?_;refine pr hF (pm rfl <| pm rfl <| pa rfl <| pa rfl <| PR.nil) ?_;clear hF fa;intro fa hF;refine aj ?_;refine ac6 ?_;have hj0:j=0:=ω
 subst hj0;simp only[DivInv,List.drop_zero,Nat.pow_zero,Nat.one_mul]at hI;have hvlt:=bV _ hvb;rw[hvn]at hvlt;have htk0:=rZ (U:=U) (k:=(ah b).length) ω (Nat.lt_trans hI.2 hvlt);rw[rZ ω (Nat.lt_trans hI.2 hvlt)]at hw_v;rw[hV]at hI;have hend:=MZ hsc0 hI.1 hI.2 hw_v hw_l;have htln:=cO (U.take (ah b).length);simp at htln;refine Qq hF rfl (iD hF rfl) (iD hF rfl) ?_;exact⟨_,rfl,⟨Q,qs_175,_,_,rfl,(UL.own (L:=Q) (hS.get 0 rfl) (hS.notX hX 0 rfl) (by first|rfl|(simp;done)|omega) (by first|rfl|(simp;done)|omega) (by first|omega|(simp;omega)) (rfl)),(UL.fin (L:=qs_175) ⟨_,_,_,rfl,(rfl),hu179⟩ (rfl) (λx hx=>by simp[hx])),(hbQ),(hw_lq),(hend.1),(hend.2),(by unfold KE;rw[if_neg ω,if_neg ω];omega),(by unfold Hr;rw[if_neg ω,if_neg ω,hw_q];exact QO hbU htk0 (by unfold Hf;rw[<-hsc];exact hI.1) hend.1 hend.2)⟩,hS.below⟩
end Go.Proofs.YtmniihkenijjpaaGreatDoor
namespace Go.Sw
open Go Go.RowKit
section
variable {P:Program} [Wld P] [Kp] {τ:Tab} {N:Nat} {w0:World} {X0:List Nat} {e:Env} {b:Bxs} {a:Act} {w:World}
theorem wp1{ops:Array Oper}{Q:Exit->Act->World->Prop}{o:Oper}{rest:List Oper}{u:Value}{w':World}(hg:o.guard=none)(hr:(execOp a.eval o).run P w=.ok (.value u) w')(k:wpList P ops Q rest (a.put o.dst u) w'):wpList P ops Q (o::rest) a w :=
 wpList_plain hg λK hK=>by
  unfold Oper.wp;rw[hr];exact hK _ _ k
theorem ajc{ops:Array Oper}{Q:Exit->Act->World->Prop}{o:Oper}{rest:List Oper}{w':World}(hg:o.guard=none)(hr:(execOp a.eval o).run P w=.ok .skip w')(k:wpList P ops Q rest (a.put o.dst undef) w'):wpList P ops Q (o::rest) a w :=
 wpList_plain hg λK hK=>by
  unfold Oper.wp;rw[hr];exact hK _ _ k
theorem St.ext0{S:List Bx}(h:St w0 w S):Ext w0 X0 w (bl S++X0):=⟨h.below.size,λk hk hx _=>⟨h.below.block k hk,λhm=>by
 rcases iH.1 hm with hm|hm
 .obtain⟨q,hq,rfl⟩:=dw.1 hm;have:=(h.box q hq).2;omega
 .exact hx hm⟩⟩
theorem Conc.putD(h:Conc N w0 X0 e b a w){t:Nat}{u:Value}{v:AV}(ht:DL N t)(hd:RepD w0 X0 u v):Conc N w0 X0 ((t,v)::e) b (a.put (some t) u) w:=by
 obtain⟨S,M,h⟩:=h;refine⟨S,M,h.ms,h.x0,by simp[Act.put,h.sz],⟨acD h.df.1 ht,h.df.2⟩,λs x hx=>?_,h.box⟩
 by_cases hs:t=s
 .subst hs;rw[aap]at hx;cases hx;rw[aaE u h.sz ht.1];exact .d (hd.ext h.ms.st.ext0)
 .rw[aat _ _ hs]at hx;rw[aau u hs];exact h.env s x hx
theorem Conc.putA(h:Conc N w0 X0 e b a w){t:Nat}{u:Value}(ht:DL N t):Conc N w0 X0 ((t,.any)::e) b (a.put (some t) u) w:=by
 obtain⟨S,M,h⟩:=h;refine⟨S,M,h.ms,h.x0,by simp[Act.put,h.sz],⟨acD h.df.1 ht,h.df.2⟩,λs x hx=>?_,h.box⟩
 by_cases hs:t=s
 .subst hs;rw[aap]at hx;cases hx;exact .any
 .rw[aat _ _ hs]at hx;rw[aau u hs];exact h.env s x hx
theorem Conc.frm(h:Conc N w0 X0 e b a w):Frm N a []:=by
 obtain⟨S,M,h⟩:=h;exact⟨h.sz,h.df.1.1,λt v h=>by simp[lk]at h⟩
theorem Conc.get(h:Conc N w0 X0 e b a w){t:Nat}{u:Value}(hx:ld t e=some (.c (.v u)))(hv:∀A n c,u ≠ .slice A n c):a.tmps.getD t undef=u:=by
 obtain⟨S,M,h⟩:=h;exact(h.env t _ hx).v_
theorem Conc.var(h:Conc N w0 X0 e b a w){t i:Nat}{cs:List Cell}(hx:ld t e=some (.ptr i 0))(hb:ld i b=some (.var cs)):∃g T us,a.tmps.getD t undef=.pointer (some ⟨g,0,none⟩)/\w0.heap.size<=g/\w.heap[g]?=some (.cells us T (0,0))/\RepL w X0 us.toList cs:=by
 obtain⟨S,M,h⟩:=h;obtain⟨m,g,hm,hv,hg,hxe⟩:=(h.env t _ hx).ptr_;obtain⟨m',hm',h1,h2,⟨g',h3⟩,h4⟩:=h.box i _ hb;rw[hm]at hm';cases hm';have h8:=h.ms.st.box _ (h.ms.inS i m hm h2 g hg);exact⟨g,m.T,_,hxe,h8.2,h8.1,by simpa using h4.ext (Ext.drop λx hx=>kG _ hx)⟩
theorem Conc.sz(h:Conc N w0 X0 e b a w):a.tmps.size=N/\a.defers=[]/\Below w0.heap.size w0 w:=by
 obtain⟨S,M,h⟩:=h;exact⟨h.sz,h.df.1.1,h.ms.st.below⟩
theorem Conc.kp(h:Conc N w0 X0 e b a w){t:Nat}{u:Value}(ht:(t,u)∈Kp.l):a.tmps.getD t undef=u:=by
 obtain⟨S,M,h⟩:=h;exact h.df.1.2 t u ht
end
theorem Conc.keep(K:List (Nat×Value)){k1:Kp}{N:Nat}{w0:World}{X0:List Nat}{e:Env}{b:Bxs}{a:Act}{w:World}(h : @Conc k1 N w0 X0 e b a w)(hK:∀t u,(t,u)∈K->a.tmps.getD t undef=u):@Conc ⟨K,k1.h⟩ N w0 X0 e b a w:=by
 obtain⟨S,M,h⟩:=h;exact⟨S,M,@Sta.mk ⟨K,k1.h⟩ N w0 X0 S M a w e b h.ms h.x0 h.sz ⟨⟨h.df.1.1,λt u ht=>hK t u ht⟩,h.df.2⟩ h.env h.box⟩
theorem Conc.boxF{k1:Kp}{N:Nat}{w0:World}{X0:List Nat}{e:Env}{b:Bxs}{a:Act}{w:World}{t:Nat}{T:TypeId}{us:List Value}{cs:List Cell}(h : @Conc k1 N w0 X0 e b a w)(hd:RepL w0 X0 us cs)(hz:∀g o,(g,o)∈k1.h->False)(ht : @DL k1 N t):
 @Conc ⟨(t,.pointer (some ⟨w.heap.size,0,none⟩))::k1.l,[(w.heap.size,.cells us.toArray T (0,0))]⟩ N w0 X0 ((t,.c (.p cs))::e) b (a.put (some t) (.pointer (some ⟨w.heap.size,0,none⟩))) (w.alloc (.cells us.toArray T)):=by
 obtain⟨S,M,h⟩:=h;have hx:=Ext.alloc_ w (bl S++X0) (.cells us.toArray T);have hnew:(w.alloc (.cells us.toArray T)).heap[w.heap.size]?=some (.cells us.toArray T (0,0)):=heap_alloc_new w _;have hnX:w.heap.size ∉ bl S++X0:=λhm=>by have:=h.bnd _ hm;omega
 refine⟨S,M,@Sta.mk ⟨(t,.pointer (some ⟨w.heap.size,0,none⟩))::k1.l,[(w.heap.size,.cells us.toArray T (0,0))]⟩ N w0 X0 S M _ _ _ b (h.ms.alloc_ _) h.x0 (by simp[Act.put,h.sz]) ⟨⟨h.df.1.1,λs x hs=>?_⟩,λg o hg=>?_⟩ (λs x hx'=>?_) (λi x hx'=>?_)⟩
 .rcases mQ.1 hs with hs|hs
  .cases hs;exact aaE _ h.sz ht.1
  .rw[aau _ (aeI ht.2 hs)];exact h.df.1.2 s x hs
 .have hg':(g,o)∈[(w.heap.size,Obj.cells us.toArray T (0,0))]:=hg;simp only[qB,kQ]at hg';obtain⟨rfl,rfl⟩:=hg';exact⟨hnew,hnX,.row hnew⟩
 .by_cases hs:t=s
  .subst hs;rw[aap]at hx';cases hx';rw[aaE _ h.sz ht.1];have hcl:=Cl.of_block hnew hnX us.length;rw[KC,AQ]at hcl;exact .d (.c (afT hcl ((hd.ext h.ms.st.ext0).ext hx)))
  .rw[aat _ _ hs]at hx';rw[aau _ hs];exact(h.env s x hx').ext hx λi _ m hm=>⟨m,hm,Comp.refl m⟩
 .obtain⟨m,h1,h2⟩:=h.box i x hx';exact⟨m,h1,h2.ext0 hx⟩
theorem Conc.kh{k1:Kp}{N:Nat}{w0:World}{X0:List Nat}{e:Env}{b:Bxs}{a:Act}{w:World}(h : @Conc k1 N w0 X0 e b a w){g:Nat}{o:Obj}(hg:(g,o)∈k1.h):w.heap[g]?=some o:=by
 obtain⟨S,M,h⟩:=h;exact(h.df.2 g o hg).1
section
variable {P:Program} [Wld P] {τ:Tab}
theorem agy{fn:Func}{os:List (Option (TypeId×Nat))}{r:AV}{N:Nat}{w:World}{X:List Nat}{x:Ex}{e:Env}{b:Bxs}{a:Act}{w':World}[WOk P w](hτ:aaH P τ=true)(hx:aif τ fn os r x e b)(hc':Conc N w X e b a w'):bodyPost P fn (Ret λu w1=>RepF w.heap.size w1 X u r/\Below w.heap.size w w1) x.x a w':=by
 obtain⟨S,M,hs⟩:=hc';cases x with
 |normal=>cases hx
 |exit id=>cases hx
 |ret =>
  simp only[aif]at hx;obtain⟨vs1,b',G,h1,h2,_,h4,_⟩:=acH (P:=P) hs hx;obtain⟨us,vs',q1,q2,q3⟩:=ais h4.at hτ h2 h4 h1;refine⟨hs.df.1.1,(if h:us.toArray.size=1 then us.toArray[0]else .tuple us.toArray), ?_,_,rfl, ?_,hs.ms.st.below⟩
  .rw[abm,Sem.run_bind,SL];simp[q2]
  .rw[<-q1.eq];refine ajf q3 (λg hg=>?_) (h4.nd hs.ms);obtain⟨p,hp,rfl⟩:=dw.1 hg;obtain⟨m,k1,k2,k3,_⟩:=h4.at p hp;exact(hs.ms.st.box _ (hs.ms.inS p.1 m k1 k2 p.2 k3)).2
theorem MS.setG{w0 w:World}{S:List Bx}{M:MM}(h:MS w0 w S M){i:Nat}{m:MB}{g0:Nat}{es:Array MapEntry}{ck:Nat}(hm:M i=some m)(hmap:w.heap[g0]?=some (.map es ck))(hg0:w0.heap.size<=g0)(hfr:∀c mc x,M c=some mc->mc.gx=some x->x.2.1≠g0):MS w0 w S (M.set i { m with gx:=some ([],g0,es,ck) }):=by
 have hset:∀c mc,M.set i { m with gx:=some ([],g0,es,ck) } c=some mc->(c=i/\mc = { m with gx:=some ([],g0,es,ck) })\/(c≠i/\M c=some mc):=λc mc hc=>by
  by_cases hci:c=i
  .subst hci;rw[MM.set_same]at hc;cases hc;exact .inl ⟨rfl,rfl⟩
  .rw[MM.set_other _ _ hci]at hc;exact .inr ⟨hci,hc⟩
 have hown:∀c mc,M.set i { m with gx:=some ([],g0,es,ck) } c=some mc->∃m2,M c=some m2/\mc.own=m2.own/\mc.g=m2.g/\mc.T=m2.T/\mc.us=m2.us:=λc mc hc=>by
  rcases hset c mc hc with⟨rfl,rfl⟩|⟨_,h5⟩
  .exact⟨m,hm,rfl,rfl,rfl,rfl⟩
  .exact⟨mc,h5,rfl,rfl,rfl,rfl⟩
 refine⟨h.st,⟨λc mc x hc hx=>?_,λc mc x c' mc' g hc hx hc' ho hg q hq=>?_,λc mc x c' mc' x' hc hx hc' hx' he=>?_⟩,λc mc hc ho g hg=>?_,λc c' mc mc' g hc hc' ho ho' hg hg'=>?_⟩
 .rcases hset c mc hc with⟨rfl,rfl⟩|⟨_,h5⟩
  .simp only[ji]at hx;subst hx;exact⟨λq hq=>(by cases hq),hmap,hg0,List.Pairwise.nil⟩
  .exact h.gh.inS c mc x h5 hx
 .obtain⟨m2,h6,e1,e2,_,_⟩:=hown c' mc' hc';rcases hset c mc hc with⟨rfl,rfl⟩|⟨_,h5⟩
  .simp only[ji]at hx;subst hx;cases hq
  .exact h.gh.own c mc x c' m2 g h5 hx h6 (e1▸ho) (e2▸hg) q hq
 .rcases hset c mc hc with⟨rfl,rfl⟩|⟨h4,h5⟩<;>rcases hset c' mc' hc' with⟨rfl,rfl⟩|⟨h6,h7⟩
  .rfl
  .simp only[ji]at hx;subst hx;rcases he with he|⟨q,hq,_⟩
   .exact(hfr c' mc' x' h7 hx' he.symm).elim
   .cases hq
  .simp only[ji]at hx';subst hx';rcases he with he|⟨q,hq,q',hq',_⟩
   .exact(hfr c mc x h5 hx he).elim
   .cases hq'
  .exact h.gh.uni c mc x c' mc' x' h5 hx h7 hx' he
 .obtain⟨m2,h6,e1,e2,e3,e4⟩:=hown c mc hc;rw[e3,e4];exact h.inS c m2 h6 (e1▸ho) g (e2▸hg)
 .obtain⟨m2,h5,e1,e2,_,_⟩:=hown c mc hc;obtain⟨m3,h6,f1,f2,_,_⟩:=hown c' mc' hc';exact h.inj c c' m2 m3 g h5 h6 (e1▸ho) (f1▸ho') (e2▸hg) (f2▸hg')
variable [Kp] {N:Nat} {w0:World} {X0:List Nat} {S:List Bx} {M:MM} {e:Env} {b:Bxs} {a:Act} {w:World}
theorem Sta.below(h:Sta N w0 X0 S M a w e b){w':World}(hB:Below w.heap.size w w'):Sta N w0 X0 S M a w' e b:=by
 have hx:=Ext.call (bl S++X0) hB
 exact⟨h.ms.call hB,h.x0,h.sz,⟨h.df.1,h.df.2.ext hx⟩,λt v hv=>(h.env t v hv).ext hx λi _ m hm=>⟨m,hm,Comp.refl m⟩,λi x hx'=>by
  obtain⟨m,h1,h2⟩:=h.box i x hx'
  exact⟨m,h1,h2.ext0 hx⟩⟩
theorem Sta.putV(h:Sta N w0 X0 S M a w e b){t:Nat}{u:Value}{v:AV}(ht:DL N t)(hv:RepV w (bl S++X0) M u v):Sta N w0 X0 S M (a.put (some t) u) w ((t,v)::e) b:=by
 refine⟨h.ms,h.x0,by simp[Act.put,h.sz],⟨acD h.df.1 ht,h.df.2⟩,λs x hx=>?_,h.box⟩
 by_cases hs:t=s
 .subst hs;rw[aap]at hx;cases hx;rw[aaE u h.sz ht.1];exact hv
 .rw[aat _ _ hs]at hx;rw[aau u hs];exact h.env s x hx
theorem Sta.frm(h:Sta N w0 X0 S M a w e b):Frm N a []:=⟨h.sz,h.df.1.1,λt v h=>by simp[lk]at h⟩
theorem Sta.ghost0{a0:Act}{e0:Env}{w1:World}{i:Nat}{T:TypeId}{us:List Value}{G:Gho}{g0:Nat}(hs:Sta N w0 X0 S M a0 w e0 b)(h:Sta N w0 X0 S M a w1 e b)(hg0:w.heap.size<=g0)(hm:w1.heap[g0]?=some (.map #[] 0))(hi:ld i b=none)(hie:mention [i] e=false)(hib:aa3 [i] b=false)(hiN:DL N i)
 (hG:G.rep w1 (bl S++X0) us [] (g0,#[],0)):Conc N w0 X0 ((i,.ptr i 0)::e) ((i,.gh G)::b) (a.put (some i) (.pointer (some ⟨w1.heap.size,0,none⟩))) (w1.alloc (.cells us.toArray T)):=by
 have hms:=h.ms.alloc (i:=i) (m:=⟨true,true,some w1.heap.size,T,0,0,0,us,none⟩) rfl rfl rfl rfl;have hext:Ext w1 (bl S++X0) (w1.alloc (.cells us.toArray T)) (bl ((w1.heap.size,T,us.toArray)::S)++X0):=Ext.alloc _ _ _
 have hms2:=hms.setG (MM.set_same _ _ _) (g0:=g0) (es:=#[]) (ck:=0) ((Below.heap_alloc w1 _ g0 (lt_of_heap hm)).trans hm) (aU hs.ms.st.below.size hg0) (λc mc x hc hx he=>by
  by_cases hci:c=i
  .subst hci;rw[MM.set_same]at hc;cases hc;cases hx
  .rw[MM.set_other _ _ hci]at hc;have:=lt_of_heap (hs.ms.gh.inS c mc x hc hx).2.1
   omega)
 have hM:∀c,c≠i->∀m,M c=some m->((M.set i ⟨true,true,some w1.heap.size,T,0,0,0,us,none⟩).set i ⟨true,true,some w1.heap.size,T,0,0,0,us,some ([],g0,#[],0)⟩) c=some m:=λc hc m hm=>by
  rw[MM.set_other _ _ hc,MM.set_other _ _ hc];exact hm
 refine⟨_,_,hms2,h.x0,by simp[Act.put,h.sz],⟨acD h.df.1 hiN,h.df.2.ext hext⟩,λt v hv=>?_,λc x hx=>?_⟩
 .by_cases hti:i=t
  .subst hti;rw[aap]at hv;cases hv;rw[aaE _ h.sz hiN.1];exact .ptr (MM.set_same _ _ _) rfl rfl
  .rw[aat _ _ hti]at hv;rw[aau _ hti];exact(h.env t v hv).ext hext λj hj m hm=>⟨m,hM j (λe=>by subst e;exact aby hie hv j hj η) m hm,Comp.refl m⟩
 .by_cases hci:i=c
  .subst hci;rw[aap]at hx;cases hx;exact⟨_,MM.set_same _ _ _,rfl,rfl,⟨_,rfl⟩,_,rfl,G.ext hG hext⟩
  .rw[aat _ _ hci]at hx;obtain⟨m,h1,h2⟩:=h.box c x hx;exact⟨m,hM c (λe=>hci e.symm) m h1,h2.ext hext λd hd mc hmc=>⟨mc,hM d (λe=>by subst e;exact abl hib c x hx d hd η) mc hmc,Comp.refl mc⟩⟩
end
open Go.WideElems (rd rg pl)
def Rv(v:Value):Option (DataW Value×List MemPlace):=some (.held v,[])
def datum(P:Program)(kT:TypeId)(es:Array MapEntry):DataW Value:=.map ((es.toList.map (rg P kT Rv)).foldr DataW.insert [])
inductive SlotR (w:World) (X:List Nat) (T:TypeId) (s:Nat) (more:List Bx):Value->List (List Cell)->Option Nat->Prop where
 |no:SlotR w X T s more (.slice none 0 0) [] none
 |some {g cap:Nat} {es:List (List Cell)} {uss:List (List Value)} {rest:List Value} (hm:(g,T,(uss.flatten++rest).toArray)∈more) (hr:RepS w X s uss es) (hc:cap*s=(uss.flatten++rest).length) (hx:cap<=maxLen) (hn:es.length<=cap) (h0:0<es.length):SlotR w X T s more (.slice (some ⟨g,0,none⟩) es.length cap) es (some g)
structure JS where
 sq:List Cell
 f:ByteArray->List (List Cell)
 n:Nat
def aia(P:Program)(kT T:TypeId)(s:Nat)(st:JS)(w:World)(X:List Nat)(us:List Value)(more:List Bx)(mo:Nat×Array MapEntry×Nat):Prop :=
 ∃us',us=.map (some mo.1)::us'/\RepL w X us' st.sq/\Go.WideElems.Fit P kT Rv mo.2.1 mo.2.2/\mo.2.1.size<=st.n /\
  ∃(val:ByteArray->Value) (og:ByteArray->Option Nat),(∀k,(datum P kT mo.2.1).atKey (.string k.data.toList) (DataW.held (Value.slice none 0 0))=DataW.held (val k))/\(∀k,SlotR w X T s more (val k) (st.f k) (og k))/\∀k1 k2 g,og k1=some g->og k2=some g->k1=k2
theorem SlotR.ext{w w':World}{X X':List Nat}{T:TypeId}{s:Nat}{more:List Bx}{v:Value}{es:List (List Cell)}{og:Option Nat}(h:SlotR w X T s more v es og)(e:Ext w X w' X'):SlotR w' X' T s more v es og:=by
 cases h with
 |no=>exact .no
 |some hm hr hc hx hn h0=>exact .some hm (hr.ext e) hc hx hn h0
def aeY(P:Program)(kT T:TypeId)(s:Nat)(st:JS):Gho where
 rep:=aia P kT T s st
 ext:=by
  rintro w X w' X' us more mo ⟨us',h1,h2,h3,h4,val,og,h5,h6,h7⟩ e;exact⟨us',h1,h2.ext e,h3,h4,val,og,h5,λk=>(h6 k).ext e,h7⟩
theorem aja{P:Program}{mT kT sT:TypeId}{w:World}{es:Array MapEntry}{ck g0:Nat}{val:ByteArray->Value}(hkT:P.underlying kT=some .string)(hmT:P.underlying mT=some (.map kT sT))(hz:∀W:World,(zeroValue sT).run P W=.ok (.slice none 0 0) W)
 (hF:Go.WideElems.Fit P kT Rv es ck) (hb:w.heap[g0]?=some (.map es ck)) (hv:∀k,(datum P kT es).atKey (.string k.data.toList) (DataW.held (Value.slice none 0 0))=DataW.held (val k)) (k:ByteArray) (hk:k.size<=maxLen) :
 (Instr.lookup mT (.map (some g0)) (.string k) false).run P w=.ok (val k) w:=by
 have hkey:keyOf P kT (.string k)=some (.string k.data.toList):=by simp[keyOf,hkT,mapKey,hk]
 rcases Maps.fit_look false (Maps.string_keyed hkT) hmT (hz w) hb hF hkey with⟨hr,_,hd⟩|⟨e0,y,_,_,hr,hy,hd,_⟩
 .have h1:=hv k;have h2:=hd (DataW.held (Value.slice none 0 0));unfold datum at h1;rw[h2]at h1;simp only[DataW.held.injEq]at h1;rw[<-h1];simpa using hr
 .have h1:=hv k;have h2:=hd (DataW.held (Value.slice none 0 0));unfold datum at h1;rw[h2]at h1;simp only[Rv,ji]at hy;subst hy;simp only[DataW.held.injEq]at h1;rw[<-h1];simpa using hr
theorem SlotR.data{w:World}{X X1:List Nat}{T:TypeId}{s:Nat}{more:List Bx}{v:Value}{es:List (List Cell)}{og:Option Nat}(h:SlotR w X T s more v es og)(hm:∀q:Bx,q∈more->w.heap[q.1]?=Option.some (Obj.cells q.2.2 q.2.1 (0,0)))(hX:∀x∈X1,x∈X/\x ∉ bl more):RepC w X1 v (.sl s es):=by
 cases h with
 |no=>exact .nil _ _ _
 |some hm' hr hc hx hn h0 =>
  rename_i g cap uss rest;have hh:=hm _ hm';have hcl:=Cl.of_block (X:=X1) hh (λhx=>(hX g hx).2 (dw.2 ⟨_,hm',rfl⟩)) uss.flatten.length;rw[KC,List.take_left' rfl]at hcl;exact(hr.ext (Ext.drop λx hx=>(hX x hx).1)).sl hcl hn (by unfold maxLen at hx;omega)
end Go.Sw
