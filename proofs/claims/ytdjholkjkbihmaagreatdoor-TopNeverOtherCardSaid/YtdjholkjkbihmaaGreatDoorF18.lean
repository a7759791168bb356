/- Laws and walks of TopNeverOther. -/
import Derived.Test.YtdjholkjkbihmaaGreatDoorF17
namespace Go.Proofs.YtdjholkjkbihmaaGreatDoor
open Go.RowKit
set_option maxRecDepth 100000
set_option maxHeartbeats 4000000
theorem refsC_one (l:List (List UInt8)):∀ u∈refsC l,u.oneCell'=true:=fun u hu=>by
 obtain⟨x,_,hx⟩:=List.mem_flatMap.1 hu
 simp only[refC,List.mem_cons,List.not_mem_nil,or_false] at hx
 rcases hx with rfl | rfl | rfl | rfl | rfl <;> rfl
theorem plsC_one (l:List PlS):∀ u∈plsC l,u.oneCell'=true:=fun u hu=>by
 obtain⟨x,_,hx⟩:=List.mem_flatMap.1 hu
 exact plC_one x u hx
theorem pk_one {s:List UInt8}{x:Value}(h:x.oneCell'=true):∀ u ∈ [tx s,x],u.oneCell'=true:=fun u hu=>by
 simp only[List.mem_cons,List.not_mem_nil,or_false] at hu
 rcases hu with rfl | rfl
 ·rfl
 ·exact h
theorem no_one :∀ u∈([]:List Value),u.oneCell'=true:=fun _ h=>(by cases h)
theorem cln_Epoch {n:Nat}{xs:List Value}{v:Value}{w:World}(hV:Sl w v 33 n xs)(h1:∀ u∈xs,u.oneCell'=true)(hn:n<2^36):RT 36 #[v] w (.row 106 33 n xs fun v=>.ret v):=cln hV h1 Tryz.func36
theorem cln_Key {n:Nat}{xs:List Value}{v:Value}{w:World}(hV:Sl w v 32 n xs)(h1:∀ u∈xs,u.oneCell'=true)(hn:n<2^36):RT 37 #[v] w (.row 23 32 n xs fun v=>.ret v):=cln hV h1 Tryz.func37
theorem cln_Box {n:Nat}{xs:List Value}{v:Value}{w:World}(hV:Sl w v 2 n xs)(h1:∀ u∈xs,u.oneCell'=true)(hn:n<2^36):RT 38 #[v] w (.row 101 2 n xs fun v=>.ret v):=cln hV h1 Tryz.func38
theorem cln_Ref {n:Nat}{xs:List Value}{v:Value}{w:World}(hV:Sl w v 5 n xs)(h1:∀ u∈xs,u.oneCell'=true)(hn:n<2^36):RT 67 #[v] w (.row 88 5 n xs fun v=>.ret v):=cln hV h1 Tryz.func67
theorem cln_Packed {n:Nat}{xs:List Value}{v:Value}{w:World}(hV:Sl w v 2 n xs)(h1:∀ u∈xs,u.oneCell'=true)(hn:n<2^36):RT 68 #[v] w (.row 118 2 n xs fun v=>.ret v):=cln hV h1 Tryz.func68
theorem cln_Place {n:Nat}{xs:List Value}{v:Value}{w:World}(hV:Sl w v 3 n xs)(h1:∀ u∈xs,u.oneCell'=true)(hn:n<2^36):RT 69 #[v] w (.row 158 3 n xs fun v=>.ret v):=cln hV h1 Tryz.func69
theorem cln_Chan {n:Nat}{xs:List Value}{v:Value}{w:World}(hV:Sl w v 34 n xs)(h1:∀ u∈xs,u.oneCell'=true)(hn:n<2^36):RT 70 #[v] w (.row 161 34 n xs fun v=>.ret v):=cln hV h1 Tryz.func70
theorem cln_str {n:Nat}{xs:List Value}{v:Value}{w:World}(hV:Sl w v 1 n xs)(h1:∀ u∈xs,u.oneCell'=true)(hn:n<2^36):RT 39 #[v] w (.row 9 1 n xs fun v=>.ret v):=cln hV h1 Tryz.func39
theorem crt0 {N:Int}{vr vp vc:Value}{refs:List (List UInt8)}{w:World}(hR:Sl w vr 5 refs.length (refsC refs))(hrl:refs.length<2^36)(hP:Sl w vp 2 0 ([]:List Value))(hC:Sl w vc 34 0 []):RT 26 #[.agg (rootX N vr vp vc).toArray] w (.row 88 5 refs.length (refsC refs) fun a=>.row 118 2 0 [] fun b=>.row 161 34 0 [] fun c=>.ret (.agg (rootX N a b c).toArray)):=by
 refine enter Tryz.func26 ?_
 have h0:=hR.one
 have h1:=hP.one
 have h2:=hC.one
 refine rg (ba (fun g0=>?_))
 refine aa Tryz.zeroValue46 (fun g1=>en (kM 1 #[i6 N,i6 0,vr,vp,i6 3,i6 2,i6 1,i6 1,vc] ?_))
 refine rg (p2 .fa .ld (ce (fun _ _ h=>cln_Ref (hR.below h.m.below) (refsC_one _) hrl) (fun va=>?_)))
 refine os 0 (fun ova cva=>?_)
 refine p1 .fa (s1 1 (cs:=#[i6 N,i6 0,va,vp,i6 3,i6 2,i6 1,i6 1,vc]) ?_)
 refine en (rg (p2 .fa .ld (ce (fun _ _ h=>cln_Packed (hP.below h.m.below) no_one (by decide)) (fun vb=>?_))))
 refine os 0 (fun ovb cvb=>?_)
 refine p1 .fa (s1 1 (cs:=#[i6 N,i6 0,va,vb,i6 3,i6 2,i6 1,i6 1,vc]) ?_)
 refine en (se (rg (p2 .fa .ld ?_)))
 refine pp (PR.lr (n:=0)) (p1 .mv (en (bl (lr 1 (kL [(1,pt g0),(2,pt g1),(14,i6 ((0:Nat):Int)),(15,i6 0)] (un (r1 .lss (se (cf (xt (nX (nX (bH (nN (rg (p2 .fa .ld (ce (fun _ _ h=>cln_Chan (hC.below h.m.below) no_one (by decide)) (fun vd=>?_))))))))))))))))))
 refine os 0 (fun ovd cvd=>?_)
 refine p1 .fa (s1 1 (cs:=#[i6 N,i6 0,va,vb,i6 3,i6 2,i6 1,i6 1,vd]) ?_)
 refine en (rg (p1 .lw (sw 0 ?_)))
 exact en (rt (et [2,1,0]))
theorem crt1 {N:Int}{vr vp vc x:Value}{refs:List (List UInt8)}{p:PkS}{w:World}(hR:Sl w vr 5 refs.length (refsC refs))(hrl:refs.length<2^36)(hP:Sl w vp 2 1 [tx p.nm,x])(hX:Sl w x 3 p.pl.length (plsC p.pl))(hpl:p.pl.length<2^36)(hx1:x.oneCell'=true)(hC:Sl w vc 34 0 []):RT 26 #[.agg (rootX N vr vp vc).toArray] w (.row 88 5 refs.length (refsC refs) fun a=>.row 158 3 p.pl.length (plsC p.pl) fun x=>.row 118 2 1 [tx p.nm,x] fun b=>.row 161 34 0 [] fun c=>.ret (.agg (rootX N a b c).toArray)):=by
 refine enter Tryz.func26 ?_
 have h0:=hR.one
 have h1:=hP.one
 have h2:=hC.one
 refine rg (ba (fun g0=>?_))
 refine aa Tryz.zeroValue46 (fun g1=>en (kM 1 #[i6 N,i6 0,vr,vp,i6 3,i6 2,i6 1,i6 1,vc] ?_))
 refine rg (p2 .fa .ld (ce (fun _ _ h=>cln_Ref (hR.below h.m.below) (refsC_one _) hrl) (fun va=>?_)))
 refine os 0 (fun ova cva=>?_)
 refine p1 .fa (s1 1 (cs:=#[i6 N,i6 0,va,vp,i6 3,i6 2,i6 1,i6 1,vc]) ?_)
 refine en (rg (p2 .fa .ld (ce (fun _ _ h=>cln_Packed (hP.below h.m.below) (pk_one hx1) (by decide)) (fun vb=>?_))))
 refine os 0 (fun ovb cvb=>?_)
 refine p1 .fa (s1 1 (cs:=#[i6 N,i6 0,va,vb,i6 3,i6 2,i6 1,i6 1,vc]) ?_)
 refine en (se (rg (p2 .fa .ld (pp (PR.lr (n:=1)) (p1 .mv ?_)))))
 refine en (bl (lr 2 (kL [(1,pt g0),(2,pt g1),(14,i6 ((1:Nat):Int)),(15,i6 0)] (un (r1 .lss (se (ct (sk (nN (se (bl (r2 .mv .as (dtk 12 [_,_,_,_,_,_,_,_,_,.tel [158] (.row 158 3 p.pl.length (plsC p.pl) fun v=>.ret v),_,_] [27,29] (fun Bs=>ha (oP (PR.fa ez)) (ha (oP (PR.lc (v:=vb) (o:=3) rfl ed (mk' 1))) (ha (oP (PR.mv ez)) (ha (oP (PR.fa ez)) (ha (oP (PR.lc (v:=vb) (o:=3) rfl ed (mk' 1))) (ha (oP (PR.mv ez)) (ha (oP (PR.ix (p:=0) (i:=0) (n:=1) (m:=2) rfl ed (SL.zr (e:=118)) ed rfl rfl (by decide))) (ha (oP (PR.fs (n:=1) (m:=2) ed (SL.zr (e:=118)) (by decide))) (ha (oP (PR.lp (v2:=x) (cs:=[tx p.nm,x]) rfl ed (SL.zr (e:=118)))) (ha (oE (fun _ _ h=>h.size) (fun _ _ h=>cln_Place (hX.below h.low) (plsC_one _) hpl) (.cons ed .nil)) (ha (oP (PR.ix (p:=0) (i:=0) (n:=1) (m:=2) rfl ed (SL.zr (e:=118)) ed rfl rfl (by decide))) (ha (oP (PR.fs (n:=1) (m:=2) ed (SL.zr (e:=118)) (by decide))) trivial)))))))))))) (fun vx=>?_))))))))))))))
 refine os 0 (fun ox _=>?_)
 refine so 1 (v2:=vx) (o:=0*2+1) ?_
 refine rc 1 1 [tx p.nm,vx] (hn:=rfl) (hx:=rfl) (h:=?_)
 refine en0 (bN (nN ?_))
 refine rg0 (pp (PR.ad 1) (p1 .mv (en0 (nN (kL [(1,pt g0),(2,pt g1),(14,i6 ((1:Nat):Int)),(15,i6 1)] (un (r1 .lss (se (cf (xt (nX (nX (bH (nN (rg (p2 .fa .ld (ce (fun _ _ h=>cln_Chan (hC.below h.m.below) no_one (by decide)) (fun vd=>?_))))))))))))))))))
 refine os 0 (fun ovd cvd=>?_)
 refine p1 .fa (s1 1 (cs:=#[i6 N,i6 0,va,vb,i6 3,i6 2,i6 1,i6 1,vd]) ?_)
 refine en (rg (p1 .lw (sw 0 ?_)))
 exact en (rt (et [3,1,2,0]))
section
attribute [local irreducible] sumS
theorem sumS_l32 (d:List UInt8):(sumS d).length=32:=sumS_len d
theorem nameR_len {n:Int}(h:1<=n/\n<=99999999):(nameR n).length=13:=by
 have:=dec8 n (by omega)
 unfold nameR
 simp only[List.length_append,List.length_replicate]
 show 5+_+_=_
 omega
def rtObj (D:KyD)(nm rd:List UInt8):List UInt8:=rowS [D.rb,D.sl (D.nn (sumS (nm++rd))) nm rd]
theorem rsave {D:KyD}{w0:World}{u0 v0 u1 v1 u2 v2 u3 v3 u4 v4 rv ky vr vp vc:Value}{Z:Nat->Shf}{N:Int}{refs:List (List UInt8)}{packs:List (PkS×Value)}(hK:EnvK D w0)(hS:StoIn w0 u0 v0 u1 v1 u2 v2 u3 v3 u4 v4 (Z 0) (Z 1) (Z 2) (Z 3) (Z 4))(hV:Sl w0 rv 33 1 D.ep)(hU:Sl w0 ky 32 1 (dgC D.k))(hR:RtIn w0 vr vp refs packs)(hk:RtOk N refs packs)(hB:RtB N refs packs)(hcv:CapOk vr)(hVc:Sl w0 vc 34 0 [])(hN:N<=2)(hL:(rowS (rtT N refs packs)).length<=60000)(hp:∀ i,i<5->PutOk (Z i) (nameR N) (rtObj D (nameR N) (rowS (rtT N refs packs)))):RT 71 #[.agg #[u0,v0,u1,v1,u2,v2,u3,v3,u4,v4,i6 (-1)],.agg #[rv],.agg #[ky],.agg (rootX N vr vp vc).toArray] w0 (stZ (pZ Z (nameR N) (fun _=>rtObj D (nameR N) (rowS (rtT N refs packs)))) fun a b c d e f g h i j=>.ret (.tuple #[.agg #[a,b,c,d,e,f,g,h,i,j,i6 (-1)],i6 0])):=by
 refine enter Tryz.func71 ?_
 obtain⟨h0,h1,h2,h3,h4,h5,h6,h7,h8,h9⟩:=hS.one
 have hov:=hV.one
 have hou:=hU.one
 have hor:=hR.r.one
 have hop:=hR.p.one
 have hoc:=hVc.one
 refine rg (ba (fun g0=>?_))
 refine ba (fun g1=>?_)
 refine ba (fun g2=>?_)
 refine ba (fun g3=>?_)
 refine aa Tryz.zeroValue31 (fun g4=>p1 .as (en (rg (p1 .lw (ce (fun _ _ h=>rtcop (hS.below h.m.below)) (fun sa0 sb0 sa1 sb1 sa2 sb2 sa3 sb3 sa4 sb4=>?_))))))
 refine osL 10 ?_
 iterate 20 intro
 refine sw 4 ?_
 refine en (rg (p1 .lw (cl (fun _ _ h=>rbytes (hK.e.below h.m.below) (hR.below h.m.below) hk hB hcv (hVc.below h.m.below)) (p5 .mv .ext .ext .as .as (en (se (r2 .mv .nei (cf (sk (nN ?_))))))))))
 refine se (rg (p2 .lw .lw (cl (fun _ _ h=>hK.chk h.m.below (hV.below h.m.below) (hU.below h.m.below)) (p1 .as (en (r2 .mv .nei (cf (sk (nN (rg (p1 .lw (cl (fun _ _ h=>hK.byt h.m.below (hV.below h.m.below)) (p5 .mv .ext .ext .as .as ?_)))))))))))))
 refine en (se (r2 .mv .nei (cf (sk (nN (rg (p3 .lw .fa .ld (pp (PR.lr (hs:=SL.p hU)) (pp (PR.sb 0) (cl (fun _ _ h=>hK.box h.m.below (hU.below h.m.below)) (p3 .mv .ext .ext (aa Tryz.zeroValue23 (fun g5=>sw 0 (h1:=cells8_one _) (hV:=by rw[cells8_size,hK.ok.bk]) ?_)))))))))))))
 refine p1 .as (en (se (r2 .mv .nei (cf (sk (nN (rg (p2 .fa .ld (cl (fun _ _ h=>rname (n:=N) (hK.e.below h.m.below) (by have:=hk.n;omega)) (p1 .as (en ?_)))))))))))
 obtain⟨X,hX⟩:∃ X,sumS ((nameR N)++(rowS (rtT N refs packs)))=X:=⟨_,rfl⟩
 have hXl:X.length=32:=by rw[←hX];exact sumS_l32 _
 have hb8:(cells8 D.bk).size=32:=by rw[cells8_size,hK.ok.bk]
 refine rg (p2 .mv .mv (bs #[sv (nameR N),sv (rowS (rtT N refs packs))] (fun g6=>?_)))
 refine cl (fun _ _ h=>by have hq:=hK.e.sum _ _ [(nameR N),(rowS (rtT N refs packs))] h.m.below (blkSl (m:=1) (k:=2) (h.m.at 0 rfl) rfl) (by have:=nameR_len hk.n;simp;omega) (by simp);rwa[show [(nameR N),(rowS (rtT N refs packs))].flatten=(nameR N)++(rowS (rtT N refs packs)) by simp,hX] at hq) (aa Tryz.zeroValue65 (fun g7=>sw 0 (h1:=cells8_one _) (hV:=by rw[cells8_size,hXl]) ?_))
 refine en ?_
 obtain⟨Y,hY⟩:∃ Y,D.sl (D.nn X) (nameR N) (rowS (rtT N refs packs))=Y:=⟨_,rfl⟩
 have hlen:(nameR N).length+(rowS (rtT N refs packs)).length<2^20:=by have:=nameR_len hk.n;omega
 refine dr [_,_,_,_,_,_,.val (sv Y),_] [] [] [] [17] trivial (fun Bs=>⟨kv (oP (PR.lw ez (mk' 2) (hn:=hb8))),kv (oP (PR.sA ez)),kv (oP (PR.bB (l:=X) ed (mk' 0) hXl)),kv (oC (fun _ _ h=>hK.non h.low hXl) (.cons ed .nil)),kv (oP (PR.mv ez)),kv (oP (PR.mv ez)),kv (oC (fun _ _ h=>hY▸hK.sea h.low (hK.ok.nn X) hlen) (.cons ed (.cons ed (.cons ed (.cons ed .nil))))),kv (oP (PR.as ed)),trivial⟩) ?_
 have hYl:=hK.ok.sl (D.nn X) (nameR N) (rowS (rtT N refs packs))
 rw[hY] at hYl
 have hrb:=hK.ok.rb
 have hfl:[D.rb,Y].flatten.length=D.rb.length+Y.length:=by simp
 have hrw:[D.rb,Y].flatten.length+10 * [D.rb,Y].length<=140737488355328:=by rw[hfl];simp only[List.length_cons,List.length_nil];omega
 obtain⟨da,hda⟩:∃ da,rowS [D.rb,Y]=da:=⟨_,rfl⟩
 have hl:da.length<=65536:=by rw[←hda];have h:=rowS_len10 [D.rb,Y] (by omega);rw[hfl] at h;simp only[List.length_cons,List.length_nil] at h;omega
 have hn:1<=(nameR N).length/\(nameR N).length<=100:=by have:=nameR_len hk.n;omega
 rw[show rtObj D (nameR N) (rowS (rtT N refs packs))=da by rw[←hda,←hY,←hX];rfl] at hp ⊢
 refine dr [_,_,_,_,.tel [9] (.row 9 1 2 (txs [D.rb,Y]) fun v=>.ret v),_,.tel [73,3] (stZ (pZ Z (nameR N) (fun _=>da)) fun a b c d e f g h i j=>.ret (.tuple #[.agg #[a,b,c,d,e,f,g,h,i,j,i6 (-1)],i6 0])),.tel [73,3] (stZ (pZ Z (nameR N) (fun _=>da)) fun a b c d e f g h i j=>.ret (.tuple #[.agg #[a,b,c,d,e,f,g,h,i,j,i6 (-1)],i6 0])),.tel [73,3] (stZ (pZ Z (nameR N) (fun _=>da)) fun a b c d e f g h i j=>.ret (.agg #[a,b,c,d,e,f,g,h,i,j,i6 (-1)])),_,.any,_] [] [⟨10,_,_,_,0,.tel [73,3] (stZ (pZ Z (nameR N) (fun _=>da)) fun a b c d e f g h i j=>.ret (.agg #[a,b,c,d,e,f,g,h,i,j,i6 (-1)]))⟩] [7] [11] ⟨rfl,trivial⟩ (fun Bs=>⟨kv (oP (PR.lw ez (MB.ox 0 rfl (by kernel_rfl)))),kv (oP (PR.mv ez)),kv (oP (PR.mv ez)),kv (oP (PR.mv ez)),kv (oS (txs [D.rb,Y]).toArray (fun _ _ h=>h.size) (.cons ed (.cons ed .nil))),kv (oO1 (s:=77) (fun _ _ h=>h) fun v=>oC (xs:=[.tmp 77]) (vs:=[v]) (fun _ _ h=>hda▸nrowK (l:=[D.rb,Y]) (SL.qr (e:=9) (List.mem_singleton.2 rfl) _ _ h) hrw (by show 2<2^44;decide)) (.cons EV.qq .nil)),kv (oE (fun _ _ h=>h.size) (fun _ _ h=>spost (Z:=Z) ⟨⟨h.rows _ (List.mem_of_getElem? (i:=0) rfl),h.rows _ (List.mem_of_getElem? (i:=1) rfl),(hp 0 (by decide)).ho,by rw[(hp 0 (by decide)).hf];decide⟩,⟨h.rows _ (List.mem_of_getElem? (i:=2) rfl),h.rows _ (List.mem_of_getElem? (i:=3) rfl),(hp 1 (by decide)).ho,by rw[(hp 1 (by decide)).hf];decide⟩,⟨h.rows _ (List.mem_of_getElem? (i:=4) rfl),h.rows _ (List.mem_of_getElem? (i:=5) rfl),(hp 2 (by decide)).ho,by rw[(hp 2 (by decide)).hf];decide⟩,⟨h.rows _ (List.mem_of_getElem? (i:=6) rfl),h.rows _ (List.mem_of_getElem? (i:=7) rfl),(hp 3 (by decide)).ho,by rw[(hp 3 (by decide)).hf];decide⟩,⟨h.rows _ (List.mem_of_getElem? (i:=8) rfl),h.rows _ (List.mem_of_getElem? (i:=9) rfl),(hp 4 (by decide)).ho,by rw[(hp 4 (by decide)).hf];decide⟩⟩ hp hn hl) (.cons ed (.cons ed (.cons ed .nil)))),kv (oM .move (.inl rfl)),kv (oXg 0),kv (oXv (c:=i6 0) 1),ks 0,kv (oP (PR.as ed)),trivial⟩) (fun ta0 tb0 ta1 tb1 ta2 tb2 ta3 tb3 ta4 tb4=>?_)
 refine kM 7 #[ta0,tb0,ta1,tb1,ta2,tb2,ta3,tb3,ta4,tb4,i6 (-1)] ?_
 refine osL 10 ?_
 iterate 20 intro
 refine se (rg (p3 .mv .eqi .mv (gTt (hp:=PR.fa) ?_)))
 refine gTt (hp:=PR.ld) ?_
 refine gTt (hp:=PR.gtr) ?_
 refine p1 .pand (en (cf (hb:=(by simp;omega)) (sk (nN (rg (p2 .lw .mv (sw 3 ?_)))))))
 exact p1 .as (en (rt (et [0,1,2,3,4,5,6,7,8,9])))
end
section
attribute [local irreducible] sumS
abbrev rtK (N:Int)(nm:List UInt8)(p:PkS)(k:Value->Value->Value->Tele):Tele:=.row 88 5 1 (refC nm) fun a=>.row 158 3 p.pl.length (plsC p.pl) fun x=>.row 118 2 1 [tx p.nm,x] fun b=>.row 161 34 0 [] fun c=>k a b c
abbrev kyK (D:KyD)(k:Value->Value->Tele):Tele:=.row 106 33 1 D.ep fun a=>.row 23 32 1 (dgC D.k) fun b=>k a b
def votC (N:Int)(a b c d e:Value):List Value:=[a,b]++rootX N c d e ++ [.bool true,.bool false]
theorem ropenY {D:KyD}{w:World}{u:Value}{N:Int}{nm n0 Y:List UInt8}{p:PkS}(hK:EnvK D w)(hU:Sl w u 33 3 D.s3)(hk:OfOk N nm p)(hY:D.sl (D.nn n0) (nameR N) (rowS (rtT N [nm] (noV p)))=Y)(hlen:(nameR N).length+(rowS (rtT N [nm] (noV p))).length<2^20)(hsh:∀ s ∈ [D.rb,Y],s.length<2^28)(hbl:(rowS [D.rb,Y]).length<2^42):RT 76 #[sv (nameR N),sv (rowS [D.rb,Y]),u] w (kyK D fun a b=>rtK N nm p fun c d e=>.ret (.agg (votC N a b c d e).toArray)):=by
 refine enter Tryz.func76 ?_
 have hN:=hk.k.n
 have hou:=hU.one
 refine rg (aa Tryz.zeroValue169 (fun g0=>en (rg (p1 .mv (ce (fun _ _ h=>ntxR [D.rb,Y] hsh hbl) (fun vt=>?_))))))
 refine os 0 (fun ovt cvt=>?_)
 refine p5 .mv .ext .ext .as .as (en (se (rg (p3 .mv .nei .mv (gFf (hp:=PR.mv) ?_)))))
 refine gFf (hp:=PR.lr (n:=2)) ?_
 refine gFf (hp:=PR.nei) ?_
 refine p1 .por (en (cf (sk (nN (rg (p1 .mv (pp (PR.ix (i:=0) (n:=2)) (pp (PR.lp (v2:=sv D.rb) (cs:=txs [D.rb,Y]) rfl) (ce (fun _ _ h=>hK.of h.m.below) (fun ve=>?_))))))))))
 refine os 0 (fun ove cve=>?_)
 refine p3 .mv .ext .ext (aa Tryz.zeroValue36 (fun g1=>sw 0 ?_))
 refine p1 .as (en (se (r2 .mv .nei (cf (sk (nN (rg (p2 .lw .mv (ce (fun _ _ h=>hK.opn h.m.below (h.s 0) (hU.below h.m.below)) (fun vk=>?_))))))))))
 refine os 0 (fun ovk cvk=>?_)
 refine p3 .mv .ext .ext (aa Tryz.zeroValue39 (fun g2=>sw 0 ?_))
 refine p1 .as ?_
 refine en (se (r2 .mv .nei (cf (sk (nN (rg (p3 .lw .fa .ld (pp (PR.lr (n:=1)) (pp (PR.sb 0) (cl (fun _ _ h=>hK.box h.m.below (h.s 0)) (p3 .mv .ext .ext (aa Tryz.zeroValue23 (fun g3=>sw 0 (h1:=cells8_one _) (hV:=by rw[cells8_size,hK.ok.bk]) ?_)))))))))))))
 refine p1 .as (en (se (r2 .mv .nei (cf (sk (nN ?_))))))
 have hb8:(cells8 D.bk).size=32:=by rw[cells8_size,hK.ok.bk]
 refine dr [_,_,_,_,_,.val (.tuple #[sv (rowS (rtT N [nm] (noV p))),i6 0]),_,_,_,_,_] [] [] [] [12,8] trivial (fun Bs=>⟨kv (oP (PR.lw ez (mk' 0) (hn:=hb8))),kv (oP (PR.mv ez)),kv (oP (PR.mv ez)),kv (oP (PR.ix (p:=1) (i:=1) (n:=2) (m:=1) rfl ed (SL.zr (e:=9)) EV.k rfl rfl (by decide))),kv (oP (PR.lp (v2:=sv Y) (cs:=txs [D.rb,Y]) rfl ed (SL.zr (e:=9)))),kv (oC (fun _ _ h=>hY▸hK.sop h.low (hK.ok.nn _) hlen) (.cons ed (.cons ed (.cons ed .nil)))),kv (oP (PR.mv ed)),kv (oP (PR.ext ed)),kv (oP (PR.ext ed)),kv (oP (PR.as ed)),kv (oP (PR.as ed)),trivial⟩) ?_
 refine se (r2 .mv .nei (cf (sk (nN (rg (p1 .mv (ce (fun _ _ h=>rof (hK.e.below h.m.below) hk) (fun va vx vb vc=>?_))))))))
 refine osL 4 ?_
 iterate 8 intro
 refine p3 .mv .ext .ext (aa Tryz.zeroValue46 (fun g4=>sw 0 ?_))
 refine p1 .as (en (se (rg (p3 .mv .nei .mv (gFf (hp:=PR.fa) ?_)))))
 refine gFf (hp:=PR.ld) ?_
 refine gcN (fun _ _ _ h=>rname (n:=N) (hK.e.below h.m.below) (by omega)) ?_
 refine gFf (hp:=PR.mv) ?_
 refine gFf (hp:=PR.nes) ?_
 refine p1 .por (en (cf (hb:=(by simp)) (sk (nN (rg (p3 .lw .lw .lw (pp (PR.bd #[ve,vk,i6 N,i6 0,va,vb,i6 3,i6 2,i6 1,i6 1,vc,.bool true,.bool false]) (sw 4 ?_))))))))
 exact en (rt (et [5,4,0,1,2,3]))
theorem ropen {D:KyD}{w:World}{u:Value}{N:Int}{nm:List UInt8}{p:PkS}(hK:EnvK D w)(hU:Sl w u 33 3 D.s3)(hk:OfOk N nm p)(hL:(rowS (rtT N [nm] (noV p))).length<=60000):RT 76 #[sv (nameR N),sv (rtObj D (nameR N) (rowS (rtT N [nm] (noV p)))),u] w (kyK D fun a b=>rtK N nm p fun c d e=>.ret (.agg (votC N a b c d e).toArray)):=by
 have h1:=hK.ok.sl (D.nn (sumS ((nameR N)++(rowS (rtT N [nm] (noV p)))))) (nameR N) (rowS (rtT N [nm] (noV p)))
 have h2:=hK.ok.rb
 have h3:=nameR_len hk.k.n
 obtain⟨Y,hY⟩:∃ Y,D.sl (D.nn (sumS ((nameR N)++(rowS (rtT N [nm] (noV p)))))) (nameR N) (rowS (rtT N [nm] (noV p)))=Y:=⟨_,rfl⟩
 rw[hY] at h1
 have hsh:∀ s ∈ [D.rb,Y],s.length<2^28:=by
  intro s hs
  simp only[List.mem_cons,List.not_mem_nil,or_false] at hs
  rcases hs with rfl | rfl <;> omega
 have hfl:[D.rb,Y].flatten.length=D.rb.length+Y.length:=by simp
 have h4:=rowS_len10 [D.rb,Y] (by omega)
 rw[hfl] at h4
 simp only[List.length_cons,List.length_nil] at h4
 have h5:=ropenY (w:=w) hK hU hk hY (by omega) hsh (by omega)
 unfold rtObj
 rw[hY]
 exact h5
end
structure Vv where
 a:Value
 b:Value
 c:Value
 d:Value
 e:Value
 f:Value
 g:Value
 h:Value
 i:Value
 j:Value
 r:Value
 y:Value
 x:Value
 z:Value
 t:Value
 pd:Value
 pn:Value
def vltL (q:Vv)(N lf:Int):List Value:=[q.a,q.b,q.c,q.d,q.e,q.f,q.g,q.h,q.i,q.j,i6 lf,q.r,q.y,i6 N,i6 0,q.x,q.z,i6 3,i6 2,i6 1,i6 1,q.t,q.pd,q.pn]
abbrev vltC (q:Vv)(N:Int):List Value:=vltL q N (-1)
abbrev bxsC (l:List Bx):List Value:=l.flatMap boxC
theorem bxsC_one (l:List Bx):∀ u∈bxsC l,u.oneCell'=true:=fun u hu=>by
 obtain⟨x,_,hx⟩:=List.mem_flatMap.1 hu
 simp only[boxC,List.mem_cons,List.not_mem_nil,or_false] at hx
 rcases hx with rfl | rfl <;> rfl
theorem txs_oneC (l:List (List UInt8)):∀ u∈txs l,u.oneCell'=true:=fun u hu=>by
 obtain⟨x,_,rfl⟩:=List.mem_map.1 hu
 rfl
structure VIn (D:KyD)(w:World)(q:Vv)(Z:Nat->Shf)(refs:List (List UInt8))(bxs:List Bx)(ps:List (List UInt8)):Prop where
 s:StoIn w q.a q.b q.c q.d q.e q.f q.g q.h q.i q.j (Z 0) (Z 1) (Z 2) (Z 3) (Z 4)
 r:Sl w q.r 33 1 D.ep
 y:Sl w q.y 32 1 (dgC D.k)
 x:Sl w q.x 5 refs.length (refsC refs)
 t:Sl w q.t 34 0 []
 pd:Sl w q.pd 2 bxs.length (bxsC bxs)
 pn:Sl w q.pn 1 ps.length (txs ps)
 lx:refs.length<2^36
 lb:bxs.length<2^36
 lp:ps.length<2^36
theorem VIn.below {D:KyD}{w w2:World}{q:Vv}{Z:Nat->Shf}{refs:List (List UInt8)}{bxs:List Bx}{ps:List (List UInt8)}(h:VIn D w q Z refs bxs ps)(hb:Below w.heap.size w w2):VIn D w2 q Z refs bxs ps:=⟨h.s.below hb,h.r.below hb,h.y.below hb,h.x.below hb,h.t.below hb,h.pd.below hb,h.pn.below hb,h.lx,h.lb,h.lp⟩
structure PIn (w:World)(q:Vv)(p:PkS)(x:Value):Prop where
 z:Sl w q.z 2 1 [tx p.nm,x]
 x:Sl w x 3 p.pl.length (plsC p.pl)
 l:p.pl.length<2^36
theorem PIn.below {w w2:World}{q:Vv}{p:PkS}{x:Value}(h:PIn w q p x)(hb:Below w.heap.size w w2):PIn w2 q p x:=⟨h.z.below hb,h.x.below hb,h.l⟩
theorem cvl0 {D:KyD}{w:World}{q:Vv}{N lf:Int}{Z:Nat->Shf}{refs:List (List UInt8)}{bxs:List Bx}{ps:List (List UInt8)}(hK:KyOk D)(hV:VIn D w q Z refs bxs ps)(hP:Sl w q.z 2 0 []):RT 17 #[.agg (vltL q N lf).toArray] w (stZ Z fun a b c d e f g h i j=>kyK D fun r y=>.row 88 5 refs.length (refsC refs) fun x=>.row 118 2 0 [] fun z=>.row 161 34 0 [] fun t=>.row 101 2 bxs.length (bxsC bxs) fun pd=>.row 9 1 ps.length (txs ps) fun pn=>.ret (.agg (vltL ⟨a,b,c,d,e,f,g,h,i,j,r,y,x,z,t,pd,pn⟩ N lf).toArray)):=by
 refine enter Tryz.func17 ?_
 obtain⟨k0,k1,k2,k3,k4,k5,k6,k7,k8,k9⟩:=hV.s.one
 have o_r:=hV.r.one
 have o_y:=hV.y.one
 have o_x:=hV.x.one
 have o_t:=hV.t.one
 have o_pd:=hV.pd.one
 have o_pn:=hV.pn.one
 have o_z:=hP.one
 refine rg (ba (fun g0=>?_))
 refine aa Tryz.zeroValue50 (fun g1=>en (kM 1 #[q.a,q.b,q.c,q.d,q.e,q.f,q.g,q.h,q.i,q.j,i6 lf,q.r,q.y,i6 N,i6 0,q.x,q.z,i6 3,i6 2,i6 1,i6 1,q.t,q.pd,q.pn] ?_))
 refine rg (p1 .fa (pp (PR.ls [q.a,q.b,q.c,q.d,q.e,q.f,q.g,q.h,q.i,q.j,i6 lf]) (ce (fun _ _ h=>cstore (hV.s.below h.m.below)) (fun na nb nc nd ne nf ng nh ni nj=>?_))))
 refine osL 10 ?_
 iterate 20 intro
 refine p1 .fa (sc 1 (cs:=#[na,nb,nc,nd,ne,nf,ng,nh,ni,nj,i6 lf,q.r,q.y,i6 N,i6 0,q.x,q.z,i6 3,i6 2,i6 1,i6 1,q.t,q.pd,q.pn]) ?_)
 refine en (rg (p3 .fa .fq .ld (ce (fun _ _ h=>cln_Epoch (hV.r.below h.m.below) hK.ep1 (by decide)) (fun nr=>?_))))
 refine os 0 (fun onr cnr=>?_)
 refine p2 .fa .fq (s1 1 (cs:=#[na,nb,nc,nd,ne,nf,ng,nh,ni,nj,i6 lf,nr,q.y,i6 N,i6 0,q.x,q.z,i6 3,i6 2,i6 1,i6 1,q.t,q.pd,q.pn]) ?_)
 refine en (rg (p3 .fa .fq .ld (ce (fun _ _ h=>cln_Key (hV.y.below h.m.below) (dgC_one _) (by decide)) (fun ny=>?_))))
 refine os 0 (fun ony cny=>?_)
 refine p2 .fa .fq (s1 1 (cs:=#[na,nb,nc,nd,ne,nf,ng,nh,ni,nj,i6 lf,nr,ny,i6 N,i6 0,q.x,q.z,i6 3,i6 2,i6 1,i6 1,q.t,q.pd,q.pn]) ?_)
 refine en (rg (p1 .fa (pp (PR.ls [i6 N,i6 0,q.x,q.z,i6 3,i6 2,i6 1,i6 1,q.t]) (ce (fun _ _ h=>crt0 (hV.x.below h.m.below) hV.lx (hP.below h.m.below) (hV.t.below h.m.below)) (fun nx nz nt=>?_)))))
 refine osL 3 ?_
 iterate 6 intro
 refine p1 .fa (sc 1 (cs:=#[na,nb,nc,nd,ne,nf,ng,nh,ni,nj,i6 lf,nr,ny,i6 N,i6 0,nx,nz,i6 3,i6 2,i6 1,i6 1,nt,q.pd,q.pn]) ?_)
 refine en (rg (p2 .fa .ld (ce (fun _ _ h=>cln_Box (hV.pd.below h.m.below) (bxsC_one _) hV.lb) (fun np=>?_))))
 refine os 0 (fun onp cnp=>?_)
 refine p1 .fa (s1 1 (cs:=#[na,nb,nc,nd,ne,nf,ng,nh,ni,nj,i6 lf,nr,ny,i6 N,i6 0,nx,nz,i6 3,i6 2,i6 1,i6 1,nt,np,q.pn]) ?_)
 refine en (rg (p2 .fa .ld (ce (fun _ _ h=>cln_str (hV.pn.below h.m.below) (txs_oneC _) hV.lp) (fun nq=>?_))))
 refine os 0 (fun onq cnq=>?_)
 refine p1 .fa (s1 1 (cs:=#[na,nb,nc,nd,ne,nf,ng,nh,ni,nj,i6 lf,nr,ny,i6 N,i6 0,nx,nz,i6 3,i6 2,i6 1,i6 1,nt,np,nq]) ?_)
 refine en (rg (p1 .lw (sw 0 ?_)))
 exact en (rt (et [7,8,9,10,11,12,13,14,15,16,6,5,2,3,4,1,0]))
theorem cvl1 {D:KyD}{w:World}{q:Vv}{N lf:Int}{Z:Nat->Shf}{refs:List (List UInt8)}{bxs:List Bx}{ps:List (List UInt8)}{p:PkS}{x:Value}(hK:KyOk D)(hV:VIn D w q Z refs bxs ps)(hP:PIn w q p x):RT 17 #[.agg (vltL q N lf).toArray] w (stZ Z fun a b c d e f g h i j=>kyK D fun r y=>.row 88 5 refs.length (refsC refs) fun x=>.row 158 3 p.pl.length (plsC p.pl) fun xx=>.row 118 2 1 [tx p.nm,xx] fun z=>.row 161 34 0 [] fun t=>.row 101 2 bxs.length (bxsC bxs) fun pd=>.row 9 1 ps.length (txs ps) fun pn=>.ret (.agg (vltL ⟨a,b,c,d,e,f,g,h,i,j,r,y,x,z,t,pd,pn⟩ N lf).toArray)):=by
 refine enter Tryz.func17 ?_
 obtain⟨k0,k1,k2,k3,k4,k5,k6,k7,k8,k9⟩:=hV.s.one
 have o_r:=hV.r.one
 have o_y:=hV.y.one
 have o_x:=hV.x.one
 have o_t:=hV.t.one
 have o_pd:=hV.pd.one
 have o_pn:=hV.pn.one
 have o_z:=hP.z.one
 refine rg (ba (fun g0=>?_))
 refine aa Tryz.zeroValue50 (fun g1=>en (kM 1 #[q.a,q.b,q.c,q.d,q.e,q.f,q.g,q.h,q.i,q.j,i6 lf,q.r,q.y,i6 N,i6 0,q.x,q.z,i6 3,i6 2,i6 1,i6 1,q.t,q.pd,q.pn] ?_))
 refine rg (p1 .fa (pp (PR.ls [q.a,q.b,q.c,q.d,q.e,q.f,q.g,q.h,q.i,q.j,i6 lf]) (ce (fun _ _ h=>cstore (hV.s.below h.m.below)) (fun na nb nc nd ne nf ng nh ni nj=>?_))))
 refine osL 10 ?_
 iterate 20 intro
 refine p1 .fa (sc 1 (cs:=#[na,nb,nc,nd,ne,nf,ng,nh,ni,nj,i6 lf,q.r,q.y,i6 N,i6 0,q.x,q.z,i6 3,i6 2,i6 1,i6 1,q.t,q.pd,q.pn]) ?_)
 refine en (rg (p3 .fa .fq .ld (ce (fun _ _ h=>cln_Epoch (hV.r.below h.m.below) hK.ep1 (by decide)) (fun nr=>?_))))
 refine os 0 (fun onr cnr=>?_)
 refine p2 .fa .fq (s1 1 (cs:=#[na,nb,nc,nd,ne,nf,ng,nh,ni,nj,i6 lf,nr,q.y,i6 N,i6 0,q.x,q.z,i6 3,i6 2,i6 1,i6 1,q.t,q.pd,q.pn]) ?_)
 refine en (rg (p3 .fa .fq .ld (ce (fun _ _ h=>cln_Key (hV.y.below h.m.below) (dgC_one _) (by decide)) (fun ny=>?_))))
 refine os 0 (fun ony cny=>?_)
 refine p2 .fa .fq (s1 1 (cs:=#[na,nb,nc,nd,ne,nf,ng,nh,ni,nj,i6 lf,nr,ny,i6 N,i6 0,q.x,q.z,i6 3,i6 2,i6 1,i6 1,q.t,q.pd,q.pn]) ?_)
 refine en (rg (p1 .fa (pp (PR.ls [i6 N,i6 0,q.x,q.z,i6 3,i6 2,i6 1,i6 1,q.t]) (ce (fun _ _ h=>crt1 (hV.x.below h.m.below) hV.lx (hP.z.below h.m.below) (hP.x.below h.m.below) hP.l hP.x.one (hV.t.below h.m.below)) (fun nx nxx nz nt=>?_)))))
 refine osL 4 ?_
 iterate 8 intro
 refine p1 .fa (sc 1 (cs:=#[na,nb,nc,nd,ne,nf,ng,nh,ni,nj,i6 lf,nr,ny,i6 N,i6 0,nx,nz,i6 3,i6 2,i6 1,i6 1,nt,q.pd,q.pn]) ?_)
 refine en (rg (p2 .fa .ld (ce (fun _ _ h=>cln_Box (hV.pd.below h.m.below) (bxsC_one _) hV.lb) (fun np=>?_))))
 refine os 0 (fun onp cnp=>?_)
 refine p1 .fa (s1 1 (cs:=#[na,nb,nc,nd,ne,nf,ng,nh,ni,nj,i6 lf,nr,ny,i6 N,i6 0,nx,nz,i6 3,i6 2,i6 1,i6 1,nt,np,q.pn]) ?_)
 refine en (rg (p2 .fa .ld (ce (fun _ _ h=>cln_str (hV.pn.below h.m.below) (txs_oneC _) hV.lp) (fun nq=>?_))))
 refine os 0 (fun onq cnq=>?_)
 refine p1 .fa (s1 1 (cs:=#[na,nb,nc,nd,ne,nf,ng,nh,ni,nj,i6 lf,nr,ny,i6 N,i6 0,nx,nz,i6 3,i6 2,i6 1,i6 1,nt,np,nq]) ?_)
 refine en (rg (p1 .lw (sw 0 ?_)))
 exact en (rt (et [8,9,10,11,12,13,14,15,16,17,7,6,2,3,4,5,1,0]))
section
attribute [local irreducible] sumS rtObj
theorem vsaveY {D:KyD}{w0:World}{q:Vv}{e0 e1 e2 e3 e4 e5 e6 e7 vr vp vc:Value}{Z:Nat->Shf}{N m k:Int}{refs:List (List UInt8)}{packs:List (PkS×Value)}{bxs:List Bx}{ps:List (List UInt8)}{da:List UInt8}(hS:StoIn w0 q.a q.b q.c q.d q.e q.f q.g q.h q.i q.j (Z 0) (Z 1) (Z 2) (Z 3) (Z 4))(hr:Sl w0 q.r 33 1 D.ep)(hy:Sl w0 q.y 32 1 (dgC D.k))(hpd:Sl w0 q.pd 2 bxs.length (bxsC bxs))(hpn:Sl w0 q.pn 1 ps.length (txs ps))(hR:RtIn w0 vr vp refs packs)(hVc:Sl w0 vc 34 0 [])(he:e0.oneCell'=true/\e1.oneCell'=true/\e2.oneCell'=true/\e3.oneCell'=true/\e4.oneCell'=true/\e5.oneCell'=true/\e6.oneCell'=true/\e7.oneCell'=true)(hm:m+1=N)(hN:1<=N/\N<=99999999)(hsv:∀ {w:World},Below w0.heap.size w0 w->RT 71 #[.agg #[q.a,q.b,q.c,q.d,q.e,q.f,q.g,q.h,q.i,q.j,i6 (-1)],.agg #[q.r],.agg #[q.y],.agg #[i6 N,i6 0,vr,vp,i6 3,i6 2,i6 1,i6 1,vc]] w (stZ (pZ Z (nameR N) (fun _=>da)) fun a b c d e f g h i j=>.ret (.tuple #[.agg #[a,b,c,d,e,f,g,h,i,j,i6 (-1)],i6 0]))):RT 27 #[.agg #[q.a,q.b,q.c,q.d,q.e,q.f,q.g,q.h,q.i,q.j,i6 (-1),q.r,q.y,i6 m,e0,e1,e2,e3,e4,e5,e6,e7,q.pd,q.pn],.agg #[i6 k,i6 0,vr,vp,i6 3,i6 2,i6 1,i6 1,vc]] w0 (stZ (pZ Z (nameR N) (fun _=>da)) fun a b c d e f g h i j=>.ret (.tuple #[.agg (vltC ⟨a,b,c,d,e,f,g,h,i,j,q.r,q.y,vr,vp,vc,q.pd,q.pn⟩ N).toArray,i6 0])):=by
 refine enter Tryz.func27 ?_
 obtain⟨k0,k1,k2,k3,k4,k5,k6,k7,k8,k9⟩:=hS.one
 have o_r:=hr.one
 have o_y:=hy.one
 have o_pd:=hpd.one
 have o_pn:=hpn.one
 have o_x:=hR.r.one
 have o_z:=hR.p.one
 have o_t:=hVc.one
 obtain⟨oe0,oe1,oe2,oe3,oe4,oe5,oe6,oe7⟩:=he
 refine rg (ba (fun g0=>?_))
 refine ba (fun g1=>?_)
 refine aa Tryz.zeroValue50 (fun g2=>p1 .as (en (kM 2 #[q.a,q.b,q.c,q.d,q.e,q.f,q.g,q.h,q.i,q.j,i6 (-1),q.r,q.y,i6 m,e0,e1,e2,e3,e4,e5,e6,e7,q.pd,q.pn] ?_)))
 refine kM 1 #[i6 k,i6 0,vr,vp,i6 3,i6 2,i6 1,i6 1,vc] ?_
 refine rg (p3 .fa .fq .ld (pp (PR.ad N) (p1 .fa (s1 1 (cs:=#[i6 N,i6 0,vr,vp,i6 3,i6 2,i6 1,i6 1,vc]) ?_))))
 refine en (rg (p1 .fa (pp (PR.ls [q.a,q.b,q.c,q.d,q.e,q.f,q.g,q.h,q.i,q.j,i6 (-1)]) (p1 .fa (pp (PR.ls [q.r]) (p1 .fa (pp (PR.ls [q.y]) (p1 .lw (ce (fun _ _ h=>hsv h.m.below) (fun ta0 tb0 ta1 tb1 ta2 tb2 ta3 tb3 ta4 tb4=>?_))))))))))
 refine osL 10 ?_
 iterate 20 intro
 refine p3 .mv .ext .ext (aa Tryz.zeroValue31 (fun g3=>sw 0 ?_))
 refine p1 .as (en (rg (p2 .lw .fa (sc 3 (cs:=#[ta0,tb0,ta1,tb1,ta2,tb2,ta3,tb3,ta4,tb4,i6 (-1),q.r,q.y,i6 m,e0,e1,e2,e3,e4,e5,e6,e7,q.pd,q.pn]) ?_))))
 refine en (se (r2 .mv .eqi (ct (rg0 (p2 .lw .fa (sc 3 (cs:=#[ta0,tb0,ta1,tb1,ta2,tb2,ta3,tb3,ta4,tb4,i6 (-1),q.r,q.y,i6 N,i6 0,vr,vp,i6 3,i6 2,i6 1,i6 1,vc,q.pd,q.pn]) ?_))))))
 refine en0 (nN (rg (p2 .lw .mv (sw 1 ?_))))
 exact p1 .as (en (rt (et [0,1,2,3,4,5,6,7,8,9])))
theorem vsave {D:KyD}{w0:World}{q:Vv}{e0 e1 e2 e3 e4 e5 e6 e7 vr vp vc:Value}{Z:Nat->Shf}{N m k:Int}{refs:List (List UInt8)}{packs:List (PkS×Value)}{bxs:List Bx}{ps:List (List UInt8)}(hK:EnvK D w0)(hS:StoIn w0 q.a q.b q.c q.d q.e q.f q.g q.h q.i q.j (Z 0) (Z 1) (Z 2) (Z 3) (Z 4))(hr:Sl w0 q.r 33 1 D.ep)(hy:Sl w0 q.y 32 1 (dgC D.k))(hpd:Sl w0 q.pd 2 bxs.length (bxsC bxs))(hpn:Sl w0 q.pn 1 ps.length (txs ps))(hR:RtIn w0 vr vp refs packs)(hcv:CapOk vr)(hVc:Sl w0 vc 34 0 [])(he:e0.oneCell'=true/\e1.oneCell'=true/\e2.oneCell'=true/\e3.oneCell'=true/\e4.oneCell'=true/\e5.oneCell'=true/\e6.oneCell'=true/\e7.oneCell'=true)(hm:m+1=N)(hk:RtOk N refs packs)(hB:RtB N refs packs)(hN:N<=2)(hL:(rowS (rtT N refs packs)).length<=60000)(hp:∀ i,i<5->PutOk (Z i) (nameR N) (rtObj D (nameR N) (rowS (rtT N refs packs)))):RT 27 #[.agg #[q.a,q.b,q.c,q.d,q.e,q.f,q.g,q.h,q.i,q.j,i6 (-1),q.r,q.y,i6 m,e0,e1,e2,e3,e4,e5,e6,e7,q.pd,q.pn],.agg #[i6 k,i6 0,vr,vp,i6 3,i6 2,i6 1,i6 1,vc]] w0 (stZ (pZ Z (nameR N) (fun _=>rtObj D (nameR N) (rowS (rtT N refs packs)))) fun a b c d e f g h i j=>.ret (.tuple #[.agg (vltC ⟨a,b,c,d,e,f,g,h,i,j,q.r,q.y,vr,vp,vc,q.pd,q.pn⟩ N).toArray,i6 0])) :=
 vsaveY (bxs:=bxs) (ps:=ps) hS hr hy hpd hpn hR hVc he hm hk.n fun hb=>rsave (Z:=Z) (hK.below hb) (hS.below hb) (hr.below hb) (hy.below hb) (hR.below hb) hk hB hcv (hVc.below hb) hN hL hp
end
theorem bxC_len (b:Bx):(boxC b).length=2:=rfl
def ixOf {α:Type}(P:α->Bool)(l:List α):Int:=match l.findIdx? P with
 | some i=>(i:Int)
 | none=>-1
theorem ixOf_yes {α:Type}{P:α->Bool}{l:List α}{i:Nat}{d:α}(h:i<l.length)(hy:P (l.getD i d)=true)(hn:∀ j,j<i->P (l.getD j d)=false):ixOf P l=(i:Int):=by
 unfold ixOf
 rw[List.findIdx?_eq_some_iff_getElem.2 ⟨h,by rw[List.getD_eq_getElem?_getD,List.getElem?_eq_getElem h] at hy;exact hy,fun j hj=>by
  have:=hn j hj
  rw[List.getD_eq_getElem?_getD,List.getElem?_eq_getElem (by omega)] at this
  simpa using this⟩]
theorem ixOf_no {α:Type}{P:α->Bool}{l:List α}{d:α}(hn:∀ j,j<l.length->P (l.getD j d)=false):ixOf P l = -1:=by
 unfold ixOf
 rw[List.findIdx?_eq_none_iff.2 fun x hx=>by
  obtain⟨i,hi,rfl⟩:=List.mem_iff_getElem.1 hx
  have:=hn i hi
  rwa[List.getD_eq_getElem?_getD,List.getElem?_eq_getElem hi] at this]
theorem lt_succ {P:Nat->Prop}{i:Nat}(h:∀ j,j<i->P j)(hi:P i):∀ j,j<i+1->P j:=fun j hj=>by
 rcases Nat.lt_or_eq_of_le (Nat.lt_succ_iff.1 hj) with h2 | rfl
 ·exact h j h2
 ·exact hi
theorem ixfBox {v:Value}{fd:FuncId}{caps:List Value}{l:List Bx}{w:World}(P:Bx->Bool)(hV:Sl w v 2 l.length (l.flatMap boxC))(hn:l.length<2^36)(hf:∀ w2,Below w.heap.size w w2->∀ x∈l,RV fd (Value.agg (boxC x).toArray::caps).toArray w2 (.bool (P x)))(hg:funOk fd):RV 102 #[v,.func (.func fd) #[] caps.toArray] w (i6 (ixOf P l)):=by
 refine enter Tryz.func102 ?_
 have hov:=hV.one
 refine r1 .as (se (rg (p1 .mv (pp (PR.lr) (p1 .mv (en (bl (lo (A:=Nat) (fun i=>i<=l.length ∧ ∀ j,j<i->P (l.getD j (([],[]):Bx))=false) (fun i=>l.length-i) (fun i=>[(0,v),(1,.func (.func fd) #[] caps.toArray),(4,i6 0),(6,v),(7,i6 (l.length:Int)),(8,i6 (i:Int))]) (fun i=>[]) (fun i=>[]) 0 ⟨Nat.zero_le _,fun _ h=>absurd h (Nat.not_lt_zero _)⟩ su (fun i hi=>?_)))))))))
 refine r1 .lss (se (sd (fun hlt=>?_) (fun hlt=>?_)))
 ·skip
  refine sk (nN (se (bl (r2 .mv .as ?_))))
  have hlt0:i<l.length:=by omega
  obtain⟨hx1,hxm⟩:=getD_memX (d:=(([],[]):Bx)) hlt0
  refine rg (p3 .mv .mv .mv (pp (PR.ix (i:=i)) (pp (PR.lq (ys:=boxC (l.getD i (([],[]):Bx))) (fun q u hu=>flat_at bxC_len hx1 q hu)) (clF (args:=.agg (boxC (l.getD i (([],[]):Bx))).toArray::caps) (fun _ _ h=>hf _ h.m.below _ hxm) ?_ (hg:=hg)))))
  refine en (cs (fun hpx=>?_) (fun hpx=>?_))
  ·rw[ixOf_yes (d:=(([],[]):Bx)) hlt0 hpx hi.2]
   exact r2 .mv .as (rt (bR (nR (nR (bR (nR (q1 rfl)))))))
  ·skip
   exact sk (bN (nN (rg0 (pp (PR.ad ((i+1:Nat):Int)) (p1 .mv (en0 (nN (bk (i+1) ⟨by omega,lt_succ hi.2 (by simpa using hpx)⟩ (by omega) su))))))))
 ·have hil:i=l.length:=by omega
  subst hil
  rw[ixOf_no (d:=(([],[]):Bx)) hi.2]
  exact xt (nX (nX (bH (nN (r1 .as (rt (q1 rfl)))))))
theorem ixfPlace {v:Value}{fd:FuncId}{caps:List Value}{l:List PlS}{w:World}(P:PlS->Bool)(hV:Sl w v 3 l.length (l.flatMap plC))(hn:l.length<2^36)(hf:∀ w2,Below w.heap.size w w2->∀ x∈l,RV fd (Value.agg (plC x).toArray::caps).toArray w2 (.bool (P x)))(hg:funOk fd):RV 163 #[v,.func (.func fd) #[] caps.toArray] w (i6 (ixOf P l)):=by
 refine enter Tryz.func163 ?_
 have hov:=hV.one
 refine r1 .as (se (rg (p1 .mv (pp (PR.lr) (p1 .mv (en (bl (lo (A:=Nat) (fun i=>i<=l.length ∧ ∀ j,j<i->P (l.getD j noPl)=false) (fun i=>l.length-i) (fun i=>[(0,v),(1,.func (.func fd) #[] caps.toArray),(4,i6 0),(6,v),(7,i6 (l.length:Int)),(8,i6 (i:Int))]) (fun i=>[]) (fun i=>[]) 0 ⟨Nat.zero_le _,fun _ h=>absurd h (Nat.not_lt_zero _)⟩ su (fun i hi=>?_)))))))))
 refine r1 .lss (se (sd (fun hlt=>?_) (fun hlt=>?_)))
 ·skip
  refine sk (nN (se (bl (r2 .mv .as ?_))))
  have hlt0:i<l.length:=by omega
  obtain⟨hx1,hxm⟩:=getD_memX (d:=noPl) hlt0
  refine rg (p3 .mv .mv .mv (pp (PR.ix (i:=i)) (pp (PR.lq (ys:=plC (l.getD i noPl)) (fun q u hu=>flat_at plC_len hx1 q hu)) (clF (args:=.agg (plC (l.getD i noPl)).toArray::caps) (fun _ _ h=>hf _ h.m.below _ hxm) ?_ (hg:=hg)))))
  refine en (cs (fun hpx=>?_) (fun hpx=>?_))
  ·rw[ixOf_yes (d:=noPl) hlt0 hpx hi.2]
   exact r2 .mv .as (rt (bR (nR (nR (bR (nR (q1 rfl)))))))
  ·skip
   exact sk (bN (nN (rg0 (pp (PR.ad ((i+1:Nat):Int)) (p1 .mv (en0 (nN (bk (i+1) ⟨by omega,lt_succ hi.2 (by simpa using hpx)⟩ (by omega) su))))))))
 ·have hil:i=l.length:=by omega
  subst hil
  rw[ixOf_no (d:=noPl) hi.2]
  exact xt (nX (nX (bH (nN (r1 .as (rt (q1 rfl)))))))
theorem ixfPacked {v:Value}{fd:FuncId}{caps:List Value}{l:List (PkS×Value)}{w:World}(P:(PkS×Value)->Bool)(hV:Sl w v 2 l.length (l.flatMap pkC))(hn:l.length<2^36)(hf:∀ w2,Below w.heap.size w w2->∀ x∈l,RV fd (Value.agg (pkC x).toArray::caps).toArray w2 (.bool (P x)))(hg:funOk fd):RV 106 #[v,.func (.func fd) #[] caps.toArray] w (i6 (ixOf P l)):=by
 refine enter Tryz.func106 ?_
 have hov:=hV.one
 refine r1 .as (se (rg (p1 .mv (pp (PR.lr) (p1 .mv (en (bl (lo (A:=Nat) (fun i=>i<=l.length ∧ ∀ j,j<i->P (l.getD j noPk)=false) (fun i=>l.length-i) (fun i=>[(0,v),(1,.func (.func fd) #[] caps.toArray),(4,i6 0),(6,v),(7,i6 (l.length:Int)),(8,i6 (i:Int))]) (fun i=>[]) (fun i=>[]) 0 ⟨Nat.zero_le _,fun _ h=>absurd h (Nat.not_lt_zero _)⟩ su (fun i hi=>?_)))))))))
 refine r1 .lss (se (sd (fun hlt=>?_) (fun hlt=>?_)))
 ·skip
  refine sk (nN (se (bl (r2 .mv .as ?_))))
  have hlt0:i<l.length:=by omega
  obtain⟨hx1,hxm⟩:=getD_memX (d:=noPk) hlt0
  refine rg (p3 .mv .mv .mv (pp (PR.ix (i:=i)) (pp (PR.lq (ys:=pkC (l.getD i noPk)) (fun q u hu=>flat_at pkC_len hx1 q hu)) (clF (args:=.agg (pkC (l.getD i noPk)).toArray::caps) (fun _ _ h=>hf _ h.m.below _ hxm) ?_ (hg:=hg)))))
  refine en (cs (fun hpx=>?_) (fun hpx=>?_))
  ·rw[ixOf_yes (d:=noPk) hlt0 hpx hi.2]
   exact r2 .mv .as (rt (bR (nR (nR (bR (nR (q1 rfl)))))))
  ·skip
   exact sk (bN (nN (rg0 (pp (PR.ad ((i+1:Nat):Int)) (p1 .mv (en0 (nN (bk (i+1) ⟨by omega,lt_succ hi.2 (by simpa using hpx)⟩ (by omega) su))))))))
 ·have hil:i=l.length:=by omega
  subst hil
  rw[ixOf_no (d:=noPk) hi.2]
  exact xt (nX (nX (bH (nN (r1 .as (rt (q1 rfl)))))))
def waitX (bxs:List Bx)(s:List UInt8):Int:=ixOf (fun b:Bx=>decide (b.1=s)) bxs
def placeX (l:List PlS)(s:List UInt8):Int:=ixOf (fun y:PlS=>decide (y.nm=s)) l
def packX (packs:List (PkS×Value))(s:List UInt8):Int:=ixOf (fun x:PkS×Value=>decide (0<=placeX x.1.pl s)) packs
def strX (l:List (List UInt8))(s:List UInt8):Int:=ixOf (fun x:List UInt8=>decide (s=x)) l
def pinS (l:List (List UInt8))(s:List UInt8):List (List UInt8):=if 0<=strX l s then l else l ++ [s]
structure PksIn (w:World)(z:Value)(packs:List (PkS×Value)):Prop where
 z:Sl w z 2 packs.length (pksC packs)
 l:packs.length<2^36
 q:∀ x∈packs,Sl w x.2 3 x.1.pl.length (plsC x.1.pl)/\x.1.pl.length<2^36
theorem PksIn.below {w w2:World}{z:Value}{packs:List (PkS×Value)}(h:PksIn w z packs)(hb:Below w.heap.size w w2):PksIn w2 z packs:=⟨h.z.below hb,h.l,fun x hx=>⟨(h.q x hx).1.below hb,(h.q x hx).2⟩⟩
theorem wait1 {b:Bx}{s:List UInt8}{g:Nat}{w:World}(hB:Blk w g 9 #[sv s]):RV 103 #[.agg (boxC b).toArray,pt g] w (.bool (decide (b.1=s))):=by
 refine enter Tryz.func103 ?_
 refine rg (ba (fun g0=>?_))
 exact p1 .as (en (rg (p2 .fa .ld (pp (PR.ld (cs:=#[sv s]) (hm:=MB.w0 hB)) (p2 .eqs .as (en (rt (q1 rfl))))))))
theorem pckd1 {b:PlS}{s:List UInt8}{g:Nat}{w:World}(hB:Blk w g 9 #[sv s]):RV 105 #[.agg (plC b).toArray,pt g] w (.bool (decide (b.nm=s))):=by
 refine enter Tryz.func105 ?_
 refine rg (ba (fun g0=>?_))
 exact p1 .as (en (rg (p2 .fa .ld (pp (PR.ld (cs:=#[sv s]) (hm:=MB.w0 hB)) (p2 .eqs .as (en (rt (q1 rfl))))))))
theorem cnfPlace {v:Value}{fd:FuncId}{caps:List Value}{l:List PlS}{w:World}(P:PlS->Bool)(hV:Sl w v 3 l.length (plsC l))(hn:l.length<2^36)(hf:∀ w2,Below w.heap.size w w2->∀ x∈l,RV fd (Value.agg (plC x).toArray::caps).toArray w2 (.bool (P x)))(hg:funOk fd):RV 108 #[v,.func (.func fd) #[] caps.toArray] w (.bool (decide (0<=ixOf P l))):=by
 refine enter Tryz.func108 ?_
 have hov:=hV.one
 exact r1 .as (rg (p2 .mv .mv (cl (fun _ _ h=>ixfPlace P (hV.below h.m.below) hn (fun w2 hb x hx=>hf w2 (h.m.below.trans (hb.mono h.m.below.size)) x hx) hg) (p2 .geq .as (en (rt (q1 rfl)))))))
theorem pckd2 {x:PkS×Value}{s:List UInt8}{g3 g5:Nat}{w:World}(hB3:Blk w g3 9 #[sv s])(hB5:Blk w g5 201 #[.func (.func 105) #[] #[pt g3]])(hV:Sl w x.2 3 x.1.pl.length (plsC x.1.pl))(hn:x.1.pl.length<2^36):RV 107 #[.agg (pkC x).toArray,pt g5] w (.bool (decide (0<=placeX x.1.pl s))):=by
 refine enter Tryz.func107 ?_
 have hov:=hV.one
 refine rg (ba (fun g0=>?_))
 exact p1 .as (en (rg (p2 .fa .ld (pp (PR.ld (cs:=#[.func (.func 105) #[] #[pt g3]]) (hm:=MB.w0 hB5)) (cl (fun _ _ h=>cnfPlace (caps:=[pt g3]) (fun y=>decide (y.nm=s)) (hV.below h.m.below) hn (fun w2 hb _ _=>pckd1 ((hB3.below h.m.below hB3.lt).below hb (hB3.below h.m.below hB3.lt).lt)) (by show _=true;kernel_rfl)) (p1 .as (en (rt (q1 rfl)))))))))
theorem vwait {D:KyD}{w:World}{q:Vv}{N lf:Int}{Z:Nat->Shf}{refs:List (List UInt8)}{bxs:List Bx}{ps:List (List UInt8)}{packs:List (PkS×Value)}{s:List UInt8}(hV:VIn D w q Z refs bxs ps)(hz:PksIn w q.z packs):RV 44 #[.agg (vltL q N lf).toArray,sv s] w (i6 (waitX bxs s)):=by
 refine enter Tryz.func44 ?_
 obtain⟨k0,k1,k2,k3,k4,k5,k6,k7,k8,k9⟩:=hV.s.one
 have o_r:=hV.r.one
 have o_y:=hV.y.one
 have o_x:=hV.x.one
 have o_t:=hV.t.one
 have o_pd:=hV.pd.one
 have o_pn:=hV.pn.one
 have o_z:=hz.z.one
 refine rg (ba (fun g0=>?_))
 refine b1 (fun g1=>?_)
 refine p1 .as (en (kM 1 #[q.a,q.b,q.c,q.d,q.e,q.f,q.g,q.h,q.i,q.j,i6 lf,q.r,q.y,i6 N,i6 0,q.x,q.z,i6 3,i6 2,i6 1,i6 1,q.t,q.pd,q.pn] ?_))
 exact rg (p2 .fa .ld (pp PR.mk (cl (fun _ _ h=>ixfBox (caps:=[pt g1]) (fun b=>decide (b.1=s)) (hV.pd.below h.m.below) hV.lb (fun w2 hb _ _=>wait1 ((h.m.at 0 rfl).below hb (h.m.at 0 rfl).lt)) (by show _=true;kernel_rfl)) (p1 .as (en (rt (q1 rfl)))))))
theorem vpckd {D:KyD}{w:World}{q:Vv}{N lf:Int}{Z:Nat->Shf}{refs:List (List UInt8)}{bxs:List Bx}{ps:List (List UInt8)}{packs:List (PkS×Value)}{s:List UInt8}(hV:VIn D w q Z refs bxs ps)(hz:PksIn w q.z packs):RV 46 #[.agg (vltL q N lf).toArray,sv s] w (i6 (packX packs s)):=by
 refine enter Tryz.func46 ?_
 obtain⟨k0,k1,k2,k3,k4,k5,k6,k7,k8,k9⟩:=hV.s.one
 have o_r:=hV.r.one
 have o_y:=hV.y.one
 have o_x:=hV.x.one
 have o_t:=hV.t.one
 have o_pd:=hV.pd.one
 have o_pn:=hV.pn.one
 have o_z:=hz.z.one
 refine rg (ba (fun g0=>?_))
 refine b1 (fun g1=>?_)
 refine p1 .as (en (kM 1 #[q.a,q.b,q.c,q.d,q.e,q.f,q.g,q.h,q.i,q.j,i6 lf,q.r,q.y,i6 N,i6 0,q.x,q.z,i6 3,i6 2,i6 1,i6 1,q.t,q.pd,q.pn] ?_))
 refine rg (pp PR.mk (a1 Tryz.zeroValue201 (fun g2=>?_)))
 refine s1 0 (cs:=#[.func (.func 105) #[] #[pt g1]]) ?_
 exact en (rg (p3 .fa .fq .ld (pp PR.mk (cl (fun _ _ h=>ixfPacked (caps:=[pt g2]) (fun x=>decide (0<=placeX x.1.pl s)) (hz.z.below h.m.below) hz.l (fun w2 hb x hx=>pckd2 ((h.m.at 1 rfl).below hb (h.m.at 1 rfl).lt) ((h.m.at 0 rfl).below hb (h.m.at 0 rfl).lt) ((hz.q x hx).1.below (h.m.below.trans (hb.mono h.m.below.size))) (hz.q x hx).2) (by show _=true;kernel_rfl)) (p1 .as (en (rt (q1 rfl))))))))
theorem vhas {D:KyD}{w:World}{q:Vv}{N lf:Int}{Z:Nat->Shf}{refs:List (List UInt8)}{bxs:List Bx}{ps:List (List UInt8)}{packs:List (PkS×Value)}{s:List UInt8}(hV:VIn D w q Z refs bxs ps)(hz:PksIn w q.z packs):RV 33 #[.agg (vltL q N lf).toArray,sv s] w (.bool (decide (0<=waitX bxs s)||decide (0<=packX packs s))):=by
 refine enter Tryz.func33 ?_
 obtain⟨k0,k1,k2,k3,k4,k5,k6,k7,k8,k9⟩:=hV.s.one
 have o_r:=hV.r.one
 have o_y:=hV.y.one
 have o_x:=hV.x.one
 have o_t:=hV.t.one
 have o_pd:=hV.pd.one
 have o_pn:=hV.pn.one
 have o_z:=hz.z.one
 refine rg (ba (fun g0=>?_))
 refine p1 .as (en (kM 0 #[q.a,q.b,q.c,q.d,q.e,q.f,q.g,q.h,q.i,q.j,i6 lf,q.r,q.y,i6 N,i6 0,q.x,q.z,i6 3,i6 2,i6 1,i6 1,q.t,q.pd,q.pn] ?_))
 refine rg (p2 .lw .mv (cl (fun _ _ h=>vwait (hV.below h.m.below) (hz.below h.m.below)) (p2 .geq .mv (gFf (hp:=PR.lw) ?_))))
 refine gFf (hp:=PR.mv) ?_
 refine gcN (fun _ _ _ h=>vpckd (hV.below h.m.below) (hz.below h.m.below)) ?_
 refine gFf (hp:=PR.geq) ?_
 exact p2 .por .as (en (rt (q1 rfl)))
theorem sindex {v:Value}{l:List (List UInt8)}{s:List UInt8}{w:World}(hV:Sl w v 1 l.length (txs l))(hn:l.length<2^36):RV 147 #[v,sv s] w (i6 (strX l s)):=by
 unfold strX
 refine enter Tryz.func147 ?_
 have hov:=hV.one
 refine r1 .as (se (rg (p1 .mv (pp (PR.lr) (p1 .mv (en (bl (lo (A:=Nat) (fun i=>i<=l.length ∧ ∀ j,j<i->decide (s=l.getD j [])=false) (fun i=>l.length-i) (fun i=>[(0,v),(1,sv s),(4,i6 0),(6,v),(7,i6 (l.length:Int)),(8,i6 (i:Int))]) (fun i=>[]) (fun i=>[]) 0 ⟨Nat.zero_le _,fun _ h=>absurd h (Nat.not_lt_zero _)⟩ su (fun i hi=>?_)))))))))
 refine r1 .lss (se (sd (fun hlt=>?_) (fun hlt=>?_)))
 ·skip
  refine sk (nN (se (bl (r2 .mv .as ?_))))
  have hlt0:i<l.length:=by omega
  refine rg (p3 .mv .mv .mv (pp (PR.ix (i:=i)) (pp (PR.lp (v2:=sv (l.getD i [])) (txs_at hlt0)) (p1 .eqs (en (cs (fun hpx=>?_) (fun hpx=>?_)))))))
  ·rw[ixOf_yes (d:=[]) hlt0 hpx hi.2]
   exact r2 .mv .as (rt (bR (nR (nR (bR (nR (q1 rfl)))))))
  ·skip
   exact sk (bN (nN (rg0 (pp (PR.ad ((i+1:Nat):Int)) (p1 .mv (en0 (nN (bk (i+1) ⟨by omega,lt_succ hi.2 (by simpa using hpx)⟩ (by omega) su))))))))
 ·have hil:i=l.length:=by omega
  subst hil
  rw[ixOf_no (d:=[]) hi.2]
  exact xt (nX (nX (bH (nN (r1 .as (rt (q1 rfl)))))))
theorem scontains {v:Value}{l:List (List UInt8)}{s:List UInt8}{w:World}(hV:Sl w v 1 l.length (txs l))(hn:l.length<2^36):RV 87 #[v,sv s] w (.bool (decide (0<=strX l s))):=by
 refine enter Tryz.func87 ?_
 exact r1 .as (rg (p2 .mv .mv (cl (fun _ _ h=>sindex (hV.below h.m.below) hn) (p2 .geq .as (en (rt (q1 rfl)))))))
theorem pinS_yes {l:List (List UInt8)}{s:List UInt8}(h:0<=strX l s):pinS l s=l:=if_pos h
theorem pinS_no {l:List (List UInt8)}{s:List UInt8}(h:¬ 0<=strX l s):pinS l s=l ++ [s]:=if_neg h
theorem vpin {w0:World}{M0:MT}{R0:List Rw}{q:Vv}{N:Int}{ps:List (List UInt8)}{s:List UInt8}(hq:∀ u ∈ [q.a,q.b,q.c,q.d,q.e,q.f,q.g,q.h,q.i,q.j,q.r,q.y,q.x,q.z,q.t,q.pd,q.pn],u.oneCell'=true)(hl:ps.length<2^36):RM 34 #[.agg (vltC q N).toArray,sv s] w0 M0 (⟨q.pn,9,1,ps.length,txs ps⟩::R0) (A:=Value) (fun _=>True) (fun x=>.agg (vltC { q with pn:=x } N).toArray) (fun _=>M0) (fun x=>⟨x,9,1,(pinS ps s).length,txs (pinS ps s)⟩::R0):=by
 refine enterM Tryz.func34 ?_
 have o_a:q.a.oneCell'=true:=hq _ (by simp)
 have o_b:q.b.oneCell'=true:=hq _ (by simp)
 have o_c:q.c.oneCell'=true:=hq _ (by simp)
 have o_d:q.d.oneCell'=true:=hq _ (by simp)
 have o_e:q.e.oneCell'=true:=hq _ (by simp)
 have o_f:q.f.oneCell'=true:=hq _ (by simp)
 have o_g:q.g.oneCell'=true:=hq _ (by simp)
 have o_h:q.h.oneCell'=true:=hq _ (by simp)
 have o_i:q.i.oneCell'=true:=hq _ (by simp)
 have o_j:q.j.oneCell'=true:=hq _ (by simp)
 have o_r:q.r.oneCell'=true:=hq _ (by simp)
 have o_y:q.y.oneCell'=true:=hq _ (by simp)
 have o_x:q.x.oneCell'=true:=hq _ (by simp)
 have o_z:q.z.oneCell'=true:=hq _ (by simp)
 have o_t:q.t.oneCell'=true:=hq _ (by simp)
 have o_pd:q.pd.oneCell'=true:=hq _ (by simp)
 have o_pn:q.pn.oneCell'=true:=hq _ (by simp)
 refine rg (ba (fun g0=>?_))
 refine aa Tryz.zeroValue50 (fun g1=>en (kM 1 #[q.a,q.b,q.c,q.d,q.e,q.f,q.g,q.h,q.i,q.j,i6 (-1),q.r,q.y,i6 N,i6 0,q.x,q.z,i6 3,i6 2,i6 1,i6 1,q.t,q.pd,q.pn] ?_))
 refine se (rg (p3 .fa .ld .mv (cl (fun _ _ h=>scontains (h.s 0) hl) (p1 .not (en (cs (fun hc=>?_) (fun hc=>?_)))))))
 ·have hc2:¬ 0<=strX ps s:=by simpa using hc
  refine rg0 (p3 .fa .ld .mv (bs #[sv s] (fun g2=>?_)))
  refine ap 0 (fun v0=>?_)
  refine os 0 (fun onp _=>?_)
  refine p1 .fa (s1 2 (cs:=#[q.a,q.b,q.c,q.d,q.e,q.f,q.g,q.h,q.i,q.j,i6 (-1),q.r,q.y,i6 N,i6 0,q.x,q.z,i6 3,i6 2,i6 1,i6 1,q.t,q.pd,v0]) ?_)
  refine en0 (rc 0 (pinS ps s).length (txs (pinS ps s)) (hn:=by rw[pinS_no hc2];simp) (hx:=by rw[pinS_no hc2];exact(txs_snoc ps s).symm) (h:=?_))
  refine nN (rg (p1 .lw (sw 1 ?_)))
  exact en (rt (kL [(4,pt g1)] (rm v0 trivial su)))
 ·have hc2:0<=strX ps s:=by simpa using hc
  refine rc 0 (pinS ps s).length (txs (pinS ps s)) (hn:=by rw[pinS_yes hc2]) (hx:=by rw[pinS_yes hc2]) (h:=?_)
  refine sk (nN (rg (p1 .lw (sw 0 ?_))))
  exact en (rt (kL [(4,pt g1)] (rm q.pn trivial su)))
def putB (bxs:List Bx)(nm bx:List UInt8):List Bx:=if 0<=waitX bxs nm then bxs else bxs ++ [(nm,bx)]
theorem putB_yes {l:List Bx}{a b:List UInt8}(h:0<=waitX l a):putB l a b=l:=if_pos h
theorem putB_no {l:List Bx}{a b:List UInt8}(h:¬ 0<=waitX l a):putB l a b=l ++ [(a,b)]:=if_neg h
def szB (l:List Bx)(i:Nat):Nat:=((l.take i).map fun b=>b.2.length).sum
theorem szB_succ {l:List Bx}{i:Nat}(h:i<l.length):szB l (i+1)=szB l i+(l.getD i ([],[])).2.length:=by
 unfold szB
 rw[List.take_succ_eq_append_getElem h,List.map_append,List.sum_append,List.getD_eq_getElem?_getD,List.getElem?_eq_getElem h]
 simp
theorem szB_le {l:List Bx}{i:Nat}(h:i<=l.length):szB l i<=szB l l.length:=by
 have:∀ k,i+k<=l.length->szB l i<=szB l (i+k):=fun k=>by
  induction k with
  | zero=>intro _;exact Nat.le_refl _
  | succ k ih=>intro h2;rw[←Nat.add_assoc,szB_succ (by omega)];have:=ih (by omega);omega
 have h2:=this (l.length-i) (by omega)
 rwa[show i+(l.length-i)=l.length by omega] at h2
theorem one_pd {q:Vv}(hq:∀ u ∈ [q.a,q.b,q.c,q.d,q.e,q.f,q.g,q.h,q.i,q.j,q.r,q.y,q.x,q.z,q.t,q.pd,q.pn],u.oneCell'=true){v:Value}(hv:v.oneCell'=true):∀ u ∈ [q.a,q.b,q.c,q.d,q.e,q.f,q.g,q.h,q.i,q.j,q.r,q.y,q.x,q.z,q.t,v,q.pn],u.oneCell'=true:=fun u hu=>by
 simp only[List.mem_cons,List.not_mem_nil,or_false] at hu
 rcases hu with h | h | h | h | h | h | h | h | h | h | h | h | h | h | h | h | h
 all_goals first
  | exact h▸hv
  | exact hq u (by simp[h])
theorem vput {D:KyD}{w0:World}{M0:MT}{R0:List Rw}{q:Vv}{N:Int}{Z:Nat->Shf}{refs:List (List UInt8)}{bxs:List Bx}{ps:List (List UInt8)}{d:List UInt8}(hK:EnvK D w0)(hq:∀ u ∈ [q.a,q.b,q.c,q.d,q.e,q.f,q.g,q.h,q.i,q.j,q.r,q.y,q.x,q.z,q.t,q.pd,q.pn],u.oneCell'=true)(hZ:∀ i,i<5->(Z i).objs.length<2^36/\(Z i).fates.length<2^36)(hlx:refs.length<2^36)(hlb:bxs.length<2^36-1)(hlp:ps.length<2^36)(hd:d.length<=32768)(hsz:(D.bx d).length+szB bxs bxs.length<=32768):RM 16 #[.agg (vltC q N).toArray,sv d] w0 M0 (⟨q.a,73,4,(Z 0).objs.length,(obs (Z 0).objs)⟩::⟨q.b,3,1,(Z 0).fates.length,(nts (Z 0).fates)⟩::⟨q.c,73,4,(Z 1).objs.length,(obs (Z 1).objs)⟩::⟨q.d,3,1,(Z 1).fates.length,(nts (Z 1).fates)⟩::⟨q.e,73,4,(Z 2).objs.length,(obs (Z 2).objs)⟩::⟨q.f,3,1,(Z 2).fates.length,(nts (Z 2).fates)⟩::⟨q.g,73,4,(Z 3).objs.length,(obs (Z 3).objs)⟩::⟨q.h,3,1,(Z 3).fates.length,(nts (Z 3).fates)⟩::⟨q.i,73,4,(Z 4).objs.length,(obs (Z 4).objs)⟩::⟨q.j,3,1,(Z 4).fates.length,(nts (Z 4).fates)⟩::⟨q.r,106,33,1,D.ep⟩::⟨q.y,23,32,1,(dgC D.k)⟩::⟨q.x,88,5,refs.length,(refsC refs)⟩::⟨q.z,118,2,0,[]⟩::⟨q.t,161,34,0,[]⟩::⟨q.pd,101,2,bxs.length,(bxsC bxs)⟩::⟨q.pn,9,1,ps.length,(txs ps)⟩::R0) (A:=Value×Value) (fun _=>True) (fun x=>.tuple #[.agg (vltC { q with pd:=x.1,pn:=x.2 } N).toArray,sv (D.nm d),i6 0]) (fun _=>M0) (fun x=>(⟨q.a,73,4,(Z 0).objs.length,(obs (Z 0).objs)⟩::⟨q.b,3,1,(Z 0).fates.length,(nts (Z 0).fates)⟩::⟨q.c,73,4,(Z 1).objs.length,(obs (Z 1).objs)⟩::⟨q.d,3,1,(Z 1).fates.length,(nts (Z 1).fates)⟩::⟨q.e,73,4,(Z 2).objs.length,(obs (Z 2).objs)⟩::⟨q.f,3,1,(Z 2).fates.length,(nts (Z 2).fates)⟩::⟨q.g,73,4,(Z 3).objs.length,(obs (Z 3).objs)⟩::⟨q.h,3,1,(Z 3).fates.length,(nts (Z 3).fates)⟩::⟨q.i,73,4,(Z 4).objs.length,(obs (Z 4).objs)⟩::⟨q.j,3,1,(Z 4).fates.length,(nts (Z 4).fates)⟩::⟨q.r,106,33,1,D.ep⟩::⟨q.y,23,32,1,(dgC D.k)⟩::⟨q.x,88,5,refs.length,(refsC refs)⟩::⟨q.z,118,2,0,[]⟩::⟨q.t,161,34,0,[]⟩::⟨x.1,101,2,(putB bxs (D.nm d) (D.bx d)).length,(bxsC (putB bxs (D.nm d) (D.bx d)))⟩::⟨x.2,9,1,(pinS ps (D.nm d)).length,(txs (pinS ps (D.nm d)))⟩::R0)):=by
 refine enterM Tryz.func16 ?_
 have o_a:q.a.oneCell'=true:=hq _ (by simp)
 have o_b:q.b.oneCell'=true:=hq _ (by simp)
 have o_c:q.c.oneCell'=true:=hq _ (by simp)
 have o_d:q.d.oneCell'=true:=hq _ (by simp)
 have o_e:q.e.oneCell'=true:=hq _ (by simp)
 have o_f:q.f.oneCell'=true:=hq _ (by simp)
 have o_g:q.g.oneCell'=true:=hq _ (by simp)
 have o_h:q.h.oneCell'=true:=hq _ (by simp)
 have o_i:q.i.oneCell'=true:=hq _ (by simp)
 have o_j:q.j.oneCell'=true:=hq _ (by simp)
 have o_r:q.r.oneCell'=true:=hq _ (by simp)
 have o_y:q.y.oneCell'=true:=hq _ (by simp)
 have o_x:q.x.oneCell'=true:=hq _ (by simp)
 have o_z:q.z.oneCell'=true:=hq _ (by simp)
 have o_t:q.t.oneCell'=true:=hq _ (by simp)
 have o_pd:q.pd.oneCell'=true:=hq _ (by simp)
 have o_pn:q.pn.oneCell'=true:=hq _ (by simp)
 refine rg (ba (fun g0=>?_))
 refine aa Tryz.zeroValue50 (fun g1=>p2 .as .as (en (kM 1 #[q.a,q.b,q.c,q.d,q.e,q.f,q.g,q.h,q.i,q.j,i6 (-1),q.r,q.y,i6 N,i6 0,q.x,q.z,i6 3,i6 2,i6 1,i6 1,q.t,q.pd,q.pn] ?_)))
 refine se (r3 .mv .ln .gtr (cf (hb:=(by simp;omega)) (sk ?_)))
 refine nN (rg (p1 .fa (pp (PR.ls [q.y]) (p1 .mv (cl (fun _ _ h=>hK.cnm (d:=d) h.m.below (h.s 11) (by omega)) (p1 .as (en (se (rg (p2 .lw .mv (cl (fun _ _ h=>vhas (q:=q) (Z:=Z) (bxs:=bxs) (ps:=ps) (refs:=refs) (packs:=[]) (D:=D) ⟨⟨⟨h.s 0,h.s 1,(hZ 0 (by decide)).1,(hZ 0 (by decide)).2⟩,⟨h.s 2,h.s 3,(hZ 1 (by decide)).1,(hZ 1 (by decide)).2⟩,⟨h.s 4,h.s 5,(hZ 2 (by decide)).1,(hZ 2 (by decide)).2⟩,⟨h.s 6,h.s 7,(hZ 3 (by decide)).1,(hZ 3 (by decide)).2⟩,⟨h.s 8,h.s 9,(hZ 4 (by decide)).1,(hZ 4 (by decide)).2⟩⟩,h.s 10,h.s 11,h.s 12,h.s 14,h.s 15,h.s 16,hlx,(by omega),hlp⟩ ⟨h.s 13,by decide,fun _ h=>(by cases h)⟩) (en (cs (fun hh=>?_) (fun hh=>?_))))))))))))))
 ·have hh2:0<=waitX bxs (D.nm d):=by simpa[packX,ixOf] using hh
  refine rg (p2 .lw .mv (fr [] [16] ?_))
  refine cm (vpin (q:=q) hq hlp) (fun xp _=>?_)
  refine os 0 (fun oxp _=>?_)
  refine p1 .mv (sw 0 ?_)
  refine p2 .as .as (en (rt (nR (fr [] [16,16,16,16,16,16,16,16,16,16,16,16,16,16,16,16,0] ?_))))
  refine rc 15 (putB bxs (D.nm d) (D.bx d)).length (bxsC (putB bxs (D.nm d) (D.bx d))) (hn:=by rw[putB_yes hh2]) (hx:=by rw[putB_yes hh2]) (h:=?_)
  exact kL [(4,pt g1),(5,sv (D.nm d)),(6,i6 0)] (rm (q.pd,xp) trivial su)
 ·have hh2:¬ 0<=waitX bxs (D.nm d):=by simpa[packX,ixOf] using hh
  refine sk (nN (rg (p1 .fa (pp (PR.ls [q.y]) (p1 .mv (cl (fun _ _ h=>hK.cse (d:=d) h.m.below (h.s 11) (by omega)) (p3 .mv .ext .ext (aa Tryz.zeroValue101 (fun g2=>sw 0 ?_)))))))))
  refine p1 .as (en ?_)
  refine se (r2 .mv .nei (cf (sk (nN (r4 .fa .ld .ln .as (se (rg (p2 .fa .ld (pp (PR.lr) (p1 .mv (en (bl (lo (A:=Nat) (fun i=>i<=bxs.length) (fun i=>bxs.length-i) (fun i=>[(1,sv d),(2,pt g0),(4,pt g1),(7,sv (D.nm d)),(8,pt g2),(10,i6 (((D.bx d).length+szB bxs i:Nat):Int)),(43,q.pd),(44,i6 (bxs.length:Int)),(45,i6 (i:Int))]) (fun i=>((g2,isB 101 #[sv (D.nm d),sv (D.bx d)])::(g1,isB 50 #[nv,nv,nv,nv,nv,nv,nv,nv,nv,nv,i6 0,nv,nv,i6 0,i6 0,nv,nv,i6 0,i6 0,i6 0,i6 0,nv,nv,nv])::(g0,isB 50 #[q.a,q.b,q.c,q.d,q.e,q.f,q.g,q.h,q.i,q.j,i6 (-1),q.r,q.y,i6 N,i6 0,q.x,q.z,i6 3,i6 2,i6 1,i6 1,q.t,q.pd,q.pn])::M0)) (fun i=>(⟨q.a,73,4,(Z 0).objs.length,(obs (Z 0).objs)⟩::⟨q.b,3,1,(Z 0).fates.length,(nts (Z 0).fates)⟩::⟨q.c,73,4,(Z 1).objs.length,(obs (Z 1).objs)⟩::⟨q.d,3,1,(Z 1).fates.length,(nts (Z 1).fates)⟩::⟨q.e,73,4,(Z 2).objs.length,(obs (Z 2).objs)⟩::⟨q.f,3,1,(Z 2).fates.length,(nts (Z 2).fates)⟩::⟨q.g,73,4,(Z 3).objs.length,(obs (Z 3).objs)⟩::⟨q.h,3,1,(Z 3).fates.length,(nts (Z 3).fates)⟩::⟨q.i,73,4,(Z 4).objs.length,(obs (Z 4).objs)⟩::⟨q.j,3,1,(Z 4).fates.length,(nts (Z 4).fates)⟩::⟨q.r,106,33,1,D.ep⟩::⟨q.y,23,32,1,(dgC D.k)⟩::⟨q.x,88,5,refs.length,(refsC refs)⟩::⟨q.z,118,2,0,[]⟩::⟨q.t,161,34,0,[]⟩::⟨q.pd,101,2,bxs.length,(bxsC bxs)⟩::⟨q.pn,9,1,ps.length,(txs ps)⟩::R0)) 0 (Nat.zero_le _) su (fun i hi=>?_))))))))))))))
  refine r1 .lss (se (sd (fun hlt=>?_) (fun hlt=>?_)))
  ·skip
   refine sk (nN (se (bl ?_)))
   have hlt0:i<bxs.length:=by omega
   obtain⟨hx1,hxm⟩:=getD_memX (d:=(([],[]):Bx)) hlt0
   refine rg (pp (PR.ix (i:=i)) (pp (PR.lq (ys:=boxC (bxs.getD i ([],[]))) (fun q u hu=>flat_at bxC_len hx1 q hu)) (aa Tryz.zeroValue101 (fun g3=>sw 0 ?_))))
   refine en ?_
   have hsx:=szB_succ hlt0
   have hsl:=szB_le (l:=bxs) (i:=i+1) (by omega)
   exact rg0 (p4 .mv .fa .ld .ln (pp (PR.ad (((D.bx d).length+szB bxs (i+1):Nat):Int)) (p1 .as (en0 (bN (nN (rg0 (pp (PR.ad ((i+1:Nat):Int)) (p1 .mv (en0 (nN (bk (i+1) (by omega) (by omega) su))))))))))))
  ·have hil:i=bxs.length:=by omega
   subst hil
   refine xt (nX (nX (bH (nN (se (rg (p2 .fa .ld (pp (PR.lr) (p2 .gtr .mv (gTt (hp:=PR.mv) ?_))))))))))
   refine gTt (hp:=PR.gtr) ?_
   refine p1 .pand (en (cf (hb:=(by simp;omega)) (sk (nN (rg (p3 .fa .ld .lw (bs #[sv (D.nm d),sv (D.bx d)] (fun g3=>?_))))))))
   refine ap 15 (fun v0=>?_)
   refine os 15 (fun ov0 _=>?_)
   refine p1 .fa (s1 3 (cs:=#[q.a,q.b,q.c,q.d,q.e,q.f,q.g,q.h,q.i,q.j,i6 (-1),q.r,q.y,i6 N,i6 0,q.x,q.z,i6 3,i6 2,i6 1,i6 1,q.t,v0,q.pn]) ?_)
   refine en (rg (p2 .lw .mv (fr [] [16] ?_)))
   refine cm (vpin (q:={ q with pd:=v0 }) (one_pd hq ov0) hlp) (fun xp _=>?_)
   refine os 0 (fun oxp _=>?_)
   refine p1 .mv (sw 2 ?_)
   refine p2 .as .as (en (rt (fr [] [16,16,16,16,16,16,16,16,16,16,16,16,16,16,16,16,0] ?_)))
   refine rc 15 (putB bxs (D.nm d) (D.bx d)).length (bxsC (putB bxs (D.nm d) (D.bx d))) (hn:=by rw[putB_no hh2];simp) (hx:=by rw[putB_no hh2];simp[boxC];exact⟨rfl,rfl⟩) (h:=?_)
   exact kL [(4,pt g1),(5,sv (D.nm d)),(6,i6 0)] (rm (v0,xp) trivial su)
end Go.Proofs.YtdjholkjkbihmaaGreatDoor
