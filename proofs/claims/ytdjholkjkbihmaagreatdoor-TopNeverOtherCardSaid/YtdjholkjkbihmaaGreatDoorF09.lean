/- Laws and walks of TopNeverOther. -/
import Derived.Test.YtdjholkjkbihmaaGreatDoorF08
namespace Go.Proofs.YtdjholkjkbihmaaGreatDoor
open Go.RowKit
set_option maxRecDepth 100000
set_option maxHeartbeats 4000000
structure StoIn (w:World)(u0 v0 u1 v1 u2 v2 u3 v3 u4 v4:Value)(z0 z1 z2 z3 z4:Shf):Prop where
 a0:ShfIn w u0 v0 z0
 a1:ShfIn w u1 v1 z1
 a2:ShfIn w u2 v2 z2
 a3:ShfIn w u3 v3 z3
 a4:ShfIn w u4 v4 z4
theorem StoIn.below {w w2:World}{u0 v0 u1 v1 u2 v2 u3 v3 u4 v4:Value}{z0 z1 z2 z3 z4:Shf}(h:StoIn w u0 v0 u1 v1 u2 v2 u3 v3 u4 v4 z0 z1 z2 z3 z4)(hb:Below w.heap.size w w2):StoIn w2 u0 v0 u1 v1 u2 v2 u3 v3 u4 v4 z0 z1 z2 z3 z4:=⟨h.a0.below hb,h.a1.below hb,h.a2.below hb,h.a3.below hb,h.a4.below hb⟩
theorem StoIn.one {w:World}{u0 v0 u1 v1 u2 v2 u3 v3 u4 v4:Value}{z0 z1 z2 z3 z4:Shf}(h:StoIn w u0 v0 u1 v1 u2 v2 u3 v3 u4 v4 z0 z1 z2 z3 z4):u0.oneCell'=true/\v0.oneCell'=true/\u1.oneCell'=true/\v1.oneCell'=true/\u2.oneCell'=true/\v2.oneCell'=true/\u3.oneCell'=true/\v3.oneCell'=true/\u4.oneCell'=true/\v4.oneCell'=true:=⟨h.a0.o.one,h.a0.f.one,h.a1.o.one,h.a1.f.one,h.a2.o.one,h.a2.f.one,h.a3.o.one,h.a3.f.one,h.a4.o.one,h.a4.f.one⟩
abbrev shK (s:Shf)(k:Value->Value->Tele):Tele:=.row 73 4 s.objs.length (obs s.objs) fun x=>.row 3 1 s.fates.length (nts s.fates) fun y=>k x y
def stT (z0 z1 z2 z3 z4:Shf)(k:Value->Value->Value->Value->Value->Value->Value->Value->Value->Value->Tele):Tele:=shK z0 fun a b=>shK z1 fun c d=>shK z2 fun e f=>shK z3 fun g h=>shK z4 fun i j=>k a b c d e f g h i j
theorem cstore {left:Int}{u0 v0 u1 v1 u2 v2 u3 v3 u4 v4:Value}{z0 z1 z2 z3 z4:Shf}{w:World}(hS:StoIn w u0 v0 u1 v1 u2 v2 u3 v3 u4 v4 z0 z1 z2 z3 z4):RT 29 #[.agg #[u0,v0,u1,v1,u2,v2,u3,v3,u4,v4,i6 left]] w (stT z0 z1 z2 z3 z4 fun a b c d e f g h i j=>.ret (.agg #[a,b,c,d,e,f,g,h,i,j,i6 left])):=by
 refine enter Tryz.func29 ?_
 obtain⟨h0,h1,h2,h3,h4,h5,h6,h7,h8,h9⟩:=hS.one
 refine rg (ba (fun g0=>?_))
 refine aa Tryz.zeroValue31 (fun g1=>en (se (r1 .mv (bl (lr 6 (kL [(1,pt g0),(2,pt g1),(4,i6 0)] ?_))))))
 refine un (r1 .lss (se (ct (sk (nN (se (bl (r2 .mv .as (rg (p3 .mv .mv .fa (pp (PR.ia 0) (p2 .fa .ld (ce (fun _ _ h=>cln_ob (hS.a0.o.below h.m.below) (obs_one _) hS.a0.ho) (fun x0=>?_))))))))))))))
 refine os 0 (fun ox0 cx0=>?_)
 refine p1 .fa (pp (PR.ia 0) (p1 .fa (s1 1 (cs:=#[x0,v0,u1,v1,u2,v2,u3,v3,u4,v4,i6 left]) ?_)))
 refine en (rg0 (p3 .mv .mv .fa (pp (PR.ia 0) (p2 .fa .ld (ce (fun _ _ h=>cln_in (hS.a0.f.below h.m.below) (nts_one _) hS.a0.hf) (fun y0=>?_))))))
 refine os 0 (fun oy0 cy0=>?_)
 refine p1 .fa (pp (PR.ia 0) (p1 .fa (s1 1 (cs:=#[x0,y0,u1,v1,u2,v2,u3,v3,u4,v4,i6 left]) ?_)))
 refine en0 (bN (nN (rg0 (pp (PR.ad 1) (p1 .mv (en0 (nN (kL [(1,pt g0),(2,pt g1),(4,i6 1)] ?_))))))))
 refine un (r1 .lss (se (ct (sk (nN (se (bl (r2 .mv .as (rg (p3 .mv .mv .fa (pp (PR.ia 1) (p2 .fq .ld (ce (fun _ _ h=>cln_ob (hS.a1.o.below h.m.below) (obs_one _) hS.a1.ho) (fun x1=>?_))))))))))))))
 refine os 0 (fun ox1 cx1=>?_)
 refine p1 .fa (pp (PR.ia 1) (p1 .fq (s1 1 (cs:=#[x0,y0,x1,v1,u2,v2,u3,v3,u4,v4,i6 left]) ?_)))
 refine en (rg0 (p3 .mv .mv .fa (pp (PR.ia 1) (p2 .fq .ld (ce (fun _ _ h=>cln_in (hS.a1.f.below h.m.below) (nts_one _) hS.a1.hf) (fun y1=>?_))))))
 refine os 0 (fun oy1 cy1=>?_)
 refine p1 .fa (pp (PR.ia 1) (p1 .fq (s1 1 (cs:=#[x0,y0,x1,y1,u2,v2,u3,v3,u4,v4,i6 left]) ?_)))
 refine en0 (bN (nN (rg0 (pp (PR.ad 2) (p1 .mv (en0 (nN (kL [(1,pt g0),(2,pt g1),(4,i6 2)] ?_))))))))
 refine un (r1 .lss (se (ct (sk (nN (se (bl (r2 .mv .as (rg (p3 .mv .mv .fa (pp (PR.ia 2) (p2 .fq .ld (ce (fun _ _ h=>cln_ob (hS.a2.o.below h.m.below) (obs_one _) hS.a2.ho) (fun x2=>?_))))))))))))))
 refine os 0 (fun ox2 cx2=>?_)
 refine p1 .fa (pp (PR.ia 2) (p1 .fq (s1 1 (cs:=#[x0,y0,x1,y1,x2,v2,u3,v3,u4,v4,i6 left]) ?_)))
 refine en (rg0 (p3 .mv .mv .fa (pp (PR.ia 2) (p2 .fq .ld (ce (fun _ _ h=>cln_in (hS.a2.f.below h.m.below) (nts_one _) hS.a2.hf) (fun y2=>?_))))))
 refine os 0 (fun oy2 cy2=>?_)
 refine p1 .fa (pp (PR.ia 2) (p1 .fq (s1 1 (cs:=#[x0,y0,x1,y1,x2,y2,u3,v3,u4,v4,i6 left]) ?_)))
 refine en0 (bN (nN (rg0 (pp (PR.ad 3) (p1 .mv (en0 (nN (kL [(1,pt g0),(2,pt g1),(4,i6 3)] ?_))))))))
 refine un (r1 .lss (se (ct (sk (nN (se (bl (r2 .mv .as (rg (p3 .mv .mv .fa (pp (PR.ia 3) (p2 .fq .ld (ce (fun _ _ h=>cln_ob (hS.a3.o.below h.m.below) (obs_one _) hS.a3.ho) (fun x3=>?_))))))))))))))
 refine os 0 (fun ox3 cx3=>?_)
 refine p1 .fa (pp (PR.ia 3) (p1 .fq (s1 1 (cs:=#[x0,y0,x1,y1,x2,y2,x3,v3,u4,v4,i6 left]) ?_)))
 refine en (rg0 (p3 .mv .mv .fa (pp (PR.ia 3) (p2 .fq .ld (ce (fun _ _ h=>cln_in (hS.a3.f.below h.m.below) (nts_one _) hS.a3.hf) (fun y3=>?_))))))
 refine os 0 (fun oy3 cy3=>?_)
 refine p1 .fa (pp (PR.ia 3) (p1 .fq (s1 1 (cs:=#[x0,y0,x1,y1,x2,y2,x3,y3,u4,v4,i6 left]) ?_)))
 refine en0 (bN (nN (rg0 (pp (PR.ad 4) (p1 .mv (en0 (nN (kL [(1,pt g0),(2,pt g1),(4,i6 4)] ?_))))))))
 refine un (r1 .lss (se (ct (sk (nN (se (bl (r2 .mv .as (rg (p3 .mv .mv .fa (pp (PR.ia 4) (p2 .fq .ld (ce (fun _ _ h=>cln_ob (hS.a4.o.below h.m.below) (obs_one _) hS.a4.ho) (fun x4=>?_))))))))))))))
 refine os 0 (fun ox4 cx4=>?_)
 refine p1 .fa (pp (PR.ia 4) (p1 .fq (s1 1 (cs:=#[x0,y0,x1,y1,x2,y2,x3,y3,x4,v4,i6 left]) ?_)))
 refine en (rg0 (p3 .mv .mv .fa (pp (PR.ia 4) (p2 .fq .ld (ce (fun _ _ h=>cln_in (hS.a4.f.below h.m.below) (nts_one _) hS.a4.hf) (fun y4=>?_))))))
 refine os 0 (fun oy4 cy4=>?_)
 refine p1 .fa (pp (PR.ia 4) (p1 .fq (s1 1 (cs:=#[x0,y0,x1,y1,x2,y2,x3,y3,x4,y4,i6 left]) ?_)))
 refine en0 (bN (nN ?_))
 refine rg0 (pp (PR.ad 5) (p1 .mv (en0 (nN (kL [(1,pt g0),(2,pt g1),(4,i6 5)] (un (r1 .lss (se (cf (xt (nX (nX (bH (nN (rg (p1 .lw (sw 0 ?_)))))))))))))))))
 exact en (rt (et [9,8,7,6,5,4,3,2,1,0]))
theorem stcop {left:Int}{u0 v0 u1 v1 u2 v2 u3 v3 u4 v4:Value}{z0 z1 z2 z3 z4:Shf}{w:World}(hS:StoIn w u0 v0 u1 v1 u2 v2 u3 v3 u4 v4 z0 z1 z2 z3 z4):RT 97 #[.agg #[u0,v0,u1,v1,u2,v2,u3,v3,u4,v4,i6 left]] w (stT z0 z1 z2 z3 z4 fun a b c d e f g h i j=>.ret (.agg #[a,b,c,d,e,f,g,h,i,j,i6 left])):=by
 refine enter Tryz.func97 ?_
 obtain⟨h0,h1,h2,h3,h4,h5,h6,h7,h8,h9⟩:=hS.one
 refine rg (ba (fun g0=>?_))
 refine aa Tryz.zeroValue31 (fun g1=>en (se (rg (p1 .fa (pp (PR.ls [u0,v0,u1,v1,u2,v2,u3,v3,u4,v4]) (p1 .mv (en (bl (lr 6 (kL [(1,pt g0),(2,pt g1),(6,.agg #[u0,v0,u1,v1,u2,v2,u3,v3,u4,v4]),(7,i6 0)] ?_))))))))))
 refine un (r1 .lss (se (ct (sk (nN (se (bl (rg (p1 .mv (pp (PR.xl 0 [u0,v0]) (aa Tryz.zeroValue28 (fun g2=>p1 .as (sw 0 ?_)))))))))))))
 refine en (dr0 [_,_,_,.tel [73] (.row 73 4 z0.objs.length (obs z0.objs) fun v=>.ret v),_,_,.tel [3] (.row 3 1 z0.fates.length (nts z0.fates) fun v=>.ret v),.tel [73,3] (shK z0 fun x y=>.ret (.agg #[x,y])),_,_,.any] [] [⟨10,_,_,_,0,.tel [73,3] (shK z0 fun x y=>.ret (.agg #[x,y]))⟩] [2] [] ⟨rfl,trivial⟩ (fun Bs=>⟨kv (oP (PR.mv ez)),kv (oP (PR.fa ez)),kv (oP (PR.ld ed (mk' 0))),kv (oE (fun _ _ h=>h.size) (fun _ _ h=>cln_ob (hS.a0.o.below h.low) (obs_one _) hS.a0.ho)),kv (oP (PR.fa ez)),kv (oP (PR.ld ed (mk' 0))),kv (oE (fun _ _ h=>h.size) (fun _ _ h=>cln_in (hS.a0.f.below h.low) (nts_one _) hS.a0.hf)),kv oB2,kv (oP (PR.fa ez)),kv (oP (PR.ia 0 ed ed)),ks 0,trivial⟩) (fun x0 y0=>?_))
 refine kM 2 #[x0,y0,u1,v1,u2,v2,u3,v3,u4,v4,i6 left] ?_
 refine os 0 (fun ox0 cx0=>?_)
 refine os 1 (fun oy0 cy0=>?_)
 refine bN (nN (rg0 (pp (PR.ad 1) (p1 .mv (en0 (nN (kL [(1,pt g0),(2,pt g1),(6,.agg #[u0,v0,u1,v1,u2,v2,u3,v3,u4,v4]),(7,i6 1)] ?_)))))))
 refine un (r1 .lss (se (ct (sk (nN (se (bl (rg (p1 .mv (pp (PR.xl 1 [u1,v1]) (aa Tryz.zeroValue28 (fun g3=>p1 .as (sw 0 ?_)))))))))))))
 refine en (dr0 [_,_,_,.tel [73] (.row 73 4 z1.objs.length (obs z1.objs) fun v=>.ret v),_,_,.tel [3] (.row 3 1 z1.fates.length (nts z1.fates) fun v=>.ret v),.tel [73,3] (shK z1 fun x y=>.ret (.agg #[x,y])),_,_,.any] [] [⟨10,_,_,_,2,.tel [73,3] (shK z1 fun x y=>.ret (.agg #[x,y]))⟩] [3] [] ⟨rfl,trivial⟩ (fun Bs=>⟨kv (oP (PR.mv ez)),kv (oP (PR.fa ez)),kv (oP (PR.ld ed (mk' 0))),kv (oE (fun _ _ h=>h.size) (fun _ _ h=>cln_ob (hS.a1.o.below h.low) (obs_one _) hS.a1.ho)),kv (oP (PR.fa ez)),kv (oP (PR.ld ed (mk' 0))),kv (oE (fun _ _ h=>h.size) (fun _ _ h=>cln_in (hS.a1.f.below h.low) (nts_one _) hS.a1.hf)),kv oB2,kv (oP (PR.fa ez)),kv (oP (PR.ia 1 ed ed)),ks 0,trivial⟩) (fun x1 y1=>?_))
 refine kM 3 #[x0,y0,x1,y1,u2,v2,u3,v3,u4,v4,i6 left] ?_
 refine os 0 (fun ox1 cx1=>?_)
 refine os 1 (fun oy1 cy1=>?_)
 refine bN (nN (rg0 (pp (PR.ad 2) (p1 .mv (en0 (nN (kL [(1,pt g0),(2,pt g1),(6,.agg #[u0,v0,u1,v1,u2,v2,u3,v3,u4,v4]),(7,i6 2)] ?_)))))))
 refine un (r1 .lss (se (ct (sk (nN (se (bl (rg (p1 .mv (pp (PR.xl 2 [u2,v2]) (aa Tryz.zeroValue28 (fun g4=>p1 .as (sw 0 ?_)))))))))))))
 refine en (dr0 [_,_,_,.tel [73] (.row 73 4 z2.objs.length (obs z2.objs) fun v=>.ret v),_,_,.tel [3] (.row 3 1 z2.fates.length (nts z2.fates) fun v=>.ret v),.tel [73,3] (shK z2 fun x y=>.ret (.agg #[x,y])),_,_,.any] [] [⟨10,_,_,_,4,.tel [73,3] (shK z2 fun x y=>.ret (.agg #[x,y]))⟩] [4] [] ⟨rfl,trivial⟩ (fun Bs=>⟨kv (oP (PR.mv ez)),kv (oP (PR.fa ez)),kv (oP (PR.ld ed (mk' 0))),kv (oE (fun _ _ h=>h.size) (fun _ _ h=>cln_ob (hS.a2.o.below h.low) (obs_one _) hS.a2.ho)),kv (oP (PR.fa ez)),kv (oP (PR.ld ed (mk' 0))),kv (oE (fun _ _ h=>h.size) (fun _ _ h=>cln_in (hS.a2.f.below h.low) (nts_one _) hS.a2.hf)),kv oB2,kv (oP (PR.fa ez)),kv (oP (PR.ia 2 ed ed)),ks 0,trivial⟩) (fun x2 y2=>?_))
 refine kM 4 #[x0,y0,x1,y1,x2,y2,u3,v3,u4,v4,i6 left] ?_
 refine os 0 (fun ox2 cx2=>?_)
 refine os 1 (fun oy2 cy2=>?_)
 refine bN (nN (rg0 (pp (PR.ad 3) (p1 .mv (en0 (nN (kL [(1,pt g0),(2,pt g1),(6,.agg #[u0,v0,u1,v1,u2,v2,u3,v3,u4,v4]),(7,i6 3)] ?_)))))))
 refine un (r1 .lss (se (ct (sk (nN (se (bl (rg (p1 .mv (pp (PR.xl 3 [u3,v3]) (aa Tryz.zeroValue28 (fun g5=>p1 .as (sw 0 ?_)))))))))))))
 refine en (dr0 [_,_,_,.tel [73] (.row 73 4 z3.objs.length (obs z3.objs) fun v=>.ret v),_,_,.tel [3] (.row 3 1 z3.fates.length (nts z3.fates) fun v=>.ret v),.tel [73,3] (shK z3 fun x y=>.ret (.agg #[x,y])),_,_,.any] [] [⟨10,_,_,_,6,.tel [73,3] (shK z3 fun x y=>.ret (.agg #[x,y]))⟩] [5] [] ⟨rfl,trivial⟩ (fun Bs=>⟨kv (oP (PR.mv ez)),kv (oP (PR.fa ez)),kv (oP (PR.ld ed (mk' 0))),kv (oE (fun _ _ h=>h.size) (fun _ _ h=>cln_ob (hS.a3.o.below h.low) (obs_one _) hS.a3.ho)),kv (oP (PR.fa ez)),kv (oP (PR.ld ed (mk' 0))),kv (oE (fun _ _ h=>h.size) (fun _ _ h=>cln_in (hS.a3.f.below h.low) (nts_one _) hS.a3.hf)),kv oB2,kv (oP (PR.fa ez)),kv (oP (PR.ia 3 ed ed)),ks 0,trivial⟩) (fun x3 y3=>?_))
 refine kM 5 #[x0,y0,x1,y1,x2,y2,x3,y3,u4,v4,i6 left] ?_
 refine os 0 (fun ox3 cx3=>?_)
 refine os 1 (fun oy3 cy3=>?_)
 refine bN (nN (rg0 (pp (PR.ad 4) (p1 .mv (en0 (nN (kL [(1,pt g0),(2,pt g1),(6,.agg #[u0,v0,u1,v1,u2,v2,u3,v3,u4,v4]),(7,i6 4)] ?_)))))))
 refine un (r1 .lss (se (ct (sk (nN (se (bl (rg (p1 .mv (pp (PR.xl 4 [u4,v4]) (aa Tryz.zeroValue28 (fun g6=>p1 .as (sw 0 ?_)))))))))))))
 refine en (dr0 [_,_,_,.tel [73] (.row 73 4 z4.objs.length (obs z4.objs) fun v=>.ret v),_,_,.tel [3] (.row 3 1 z4.fates.length (nts z4.fates) fun v=>.ret v),.tel [73,3] (shK z4 fun x y=>.ret (.agg #[x,y])),_,_,.any] [] [⟨10,_,_,_,8,.tel [73,3] (shK z4 fun x y=>.ret (.agg #[x,y]))⟩] [6] [] ⟨rfl,trivial⟩ (fun Bs=>⟨kv (oP (PR.mv ez)),kv (oP (PR.fa ez)),kv (oP (PR.ld ed (mk' 0))),kv (oE (fun _ _ h=>h.size) (fun _ _ h=>cln_ob (hS.a4.o.below h.low) (obs_one _) hS.a4.ho)),kv (oP (PR.fa ez)),kv (oP (PR.ld ed (mk' 0))),kv (oE (fun _ _ h=>h.size) (fun _ _ h=>cln_in (hS.a4.f.below h.low) (nts_one _) hS.a4.hf)),kv oB2,kv (oP (PR.fa ez)),kv (oP (PR.ia 4 ed ed)),ks 0,trivial⟩) (fun x4 y4=>?_))
 refine kM 6 #[x0,y0,x1,y1,x2,y2,x3,y3,x4,y4,i6 left] ?_
 refine os 0 (fun ox4 cx4=>?_)
 refine os 1 (fun oy4 cy4=>?_)
 refine bN (nN ?_)
 refine rg0 (pp (PR.ad 5) (p1 .mv (en0 (nN (kL [(1,pt g0),(2,pt g1),(6,.agg #[u0,v0,u1,v1,u2,v2,u3,v3,u4,v4]),(7,i6 5)] (un (r1 .lss (se (cf (xt (nX (nX (bH (nN (rg (p1 .lw (sw 5 ?_)))))))))))))))))
 exact en (rt (et [8,9,6,7,4,5,2,3,0,1]))
theorem rtcop {left:Int}{u0 v0 u1 v1 u2 v2 u3 v3 u4 v4:Value}{z0 z1 z2 z3 z4:Shf}{w:World}(hS:StoIn w u0 v0 u1 v1 u2 v2 u3 v3 u4 v4 z0 z1 z2 z3 z4):RT 73 #[.agg #[u0,v0,u1,v1,u2,v2,u3,v3,u4,v4,i6 left]] w (stT z0 z1 z2 z3 z4 fun a b c d e f g h i j=>.ret (.agg #[a,b,c,d,e,f,g,h,i,j,i6 left])):=by
 refine enter Tryz.func73 ?_
 obtain⟨h0,h1,h2,h3,h4,h5,h6,h7,h8,h9⟩:=hS.one
 refine rg (ba (fun g0=>?_))
 refine aa Tryz.zeroValue31 (fun g1=>en (se (rg (p1 .fa (pp (PR.ls [u0,v0,u1,v1,u2,v2,u3,v3,u4,v4]) (p1 .mv (en (bl (lr 6 (kL [(1,pt g0),(2,pt g1),(6,.agg #[u0,v0,u1,v1,u2,v2,u3,v3,u4,v4]),(7,i6 0)] ?_))))))))))
 refine un (r1 .lss (se (ct (sk (nN (se (bl (rg (p1 .mv (pp (PR.xl 0 [u0,v0]) (aa Tryz.zeroValue28 (fun g2=>p1 .as (sw 0 ?_)))))))))))))
 refine en (dr0 [_,_,_,.tel [73] (.row 73 4 z0.objs.length (obs z0.objs) fun v=>.ret v),_,_,.tel [3] (.row 3 1 z0.fates.length (nts z0.fates) fun v=>.ret v),.tel [73,3] (shK z0 fun x y=>.ret (.agg #[x,y])),_,_,.any] [] [⟨10,_,_,_,0,.tel [73,3] (shK z0 fun x y=>.ret (.agg #[x,y]))⟩] [2] [] ⟨rfl,trivial⟩ (fun Bs=>⟨kv (oP (PR.mv ez)),kv (oP (PR.fa ez)),kv (oP (PR.ld ed (mk' 0))),kv (oE (fun _ _ h=>h.size) (fun _ _ h=>cln_ob (hS.a0.o.below h.low) (obs_one _) hS.a0.ho)),kv (oP (PR.fa ez)),kv (oP (PR.ld ed (mk' 0))),kv (oE (fun _ _ h=>h.size) (fun _ _ h=>cln_in (hS.a0.f.below h.low) (nts_one _) hS.a0.hf)),kv oB2,kv (oP (PR.fa ez)),kv (oP (PR.ia 0 ed ed)),ks 0,trivial⟩) (fun x0 y0=>?_))
 refine kM 2 #[x0,y0,u1,v1,u2,v2,u3,v3,u4,v4,i6 left] ?_
 refine os 0 (fun ox0 cx0=>?_)
 refine os 1 (fun oy0 cy0=>?_)
 refine bN (nN (rg0 (pp (PR.ad 1) (p1 .mv (en0 (nN (kL [(1,pt g0),(2,pt g1),(6,.agg #[u0,v0,u1,v1,u2,v2,u3,v3,u4,v4]),(7,i6 1)] ?_)))))))
 refine un (r1 .lss (se (ct (sk (nN (se (bl (rg (p1 .mv (pp (PR.xl 1 [u1,v1]) (aa Tryz.zeroValue28 (fun g3=>p1 .as (sw 0 ?_)))))))))))))
 refine en (dr0 [_,_,_,.tel [73] (.row 73 4 z1.objs.length (obs z1.objs) fun v=>.ret v),_,_,.tel [3] (.row 3 1 z1.fates.length (nts z1.fates) fun v=>.ret v),.tel [73,3] (shK z1 fun x y=>.ret (.agg #[x,y])),_,_,.any] [] [⟨10,_,_,_,2,.tel [73,3] (shK z1 fun x y=>.ret (.agg #[x,y]))⟩] [3] [] ⟨rfl,trivial⟩ (fun Bs=>⟨kv (oP (PR.mv ez)),kv (oP (PR.fa ez)),kv (oP (PR.ld ed (mk' 0))),kv (oE (fun _ _ h=>h.size) (fun _ _ h=>cln_ob (hS.a1.o.below h.low) (obs_one _) hS.a1.ho)),kv (oP (PR.fa ez)),kv (oP (PR.ld ed (mk' 0))),kv (oE (fun _ _ h=>h.size) (fun _ _ h=>cln_in (hS.a1.f.below h.low) (nts_one _) hS.a1.hf)),kv oB2,kv (oP (PR.fa ez)),kv (oP (PR.ia 1 ed ed)),ks 0,trivial⟩) (fun x1 y1=>?_))
 refine kM 3 #[x0,y0,x1,y1,u2,v2,u3,v3,u4,v4,i6 left] ?_
 refine os 0 (fun ox1 cx1=>?_)
 refine os 1 (fun oy1 cy1=>?_)
 refine bN (nN (rg0 (pp (PR.ad 2) (p1 .mv (en0 (nN (kL [(1,pt g0),(2,pt g1),(6,.agg #[u0,v0,u1,v1,u2,v2,u3,v3,u4,v4]),(7,i6 2)] ?_)))))))
 refine un (r1 .lss (se (ct (sk (nN (se (bl (rg (p1 .mv (pp (PR.xl 2 [u2,v2]) (aa Tryz.zeroValue28 (fun g4=>p1 .as (sw 0 ?_)))))))))))))
 refine en (dr0 [_,_,_,.tel [73] (.row 73 4 z2.objs.length (obs z2.objs) fun v=>.ret v),_,_,.tel [3] (.row 3 1 z2.fates.length (nts z2.fates) fun v=>.ret v),.tel [73,3] (shK z2 fun x y=>.ret (.agg #[x,y])),_,_,.any] [] [⟨10,_,_,_,4,.tel [73,3] (shK z2 fun x y=>.ret (.agg #[x,y]))⟩] [4] [] ⟨rfl,trivial⟩ (fun Bs=>⟨kv (oP (PR.mv ez)),kv (oP (PR.fa ez)),kv (oP (PR.ld ed (mk' 0))),kv (oE (fun _ _ h=>h.size) (fun _ _ h=>cln_ob (hS.a2.o.below h.low) (obs_one _) hS.a2.ho)),kv (oP (PR.fa ez)),kv (oP (PR.ld ed (mk' 0))),kv (oE (fun _ _ h=>h.size) (fun _ _ h=>cln_in (hS.a2.f.below h.low) (nts_one _) hS.a2.hf)),kv oB2,kv (oP (PR.fa ez)),kv (oP (PR.ia 2 ed ed)),ks 0,trivial⟩) (fun x2 y2=>?_))
 refine kM 4 #[x0,y0,x1,y1,x2,y2,u3,v3,u4,v4,i6 left] ?_
 refine os 0 (fun ox2 cx2=>?_)
 refine os 1 (fun oy2 cy2=>?_)
 refine bN (nN (rg0 (pp (PR.ad 3) (p1 .mv (en0 (nN (kL [(1,pt g0),(2,pt g1),(6,.agg #[u0,v0,u1,v1,u2,v2,u3,v3,u4,v4]),(7,i6 3)] ?_)))))))
 refine un (r1 .lss (se (ct (sk (nN (se (bl (rg (p1 .mv (pp (PR.xl 3 [u3,v3]) (aa Tryz.zeroValue28 (fun g5=>p1 .as (sw 0 ?_)))))))))))))
 refine en (dr0 [_,_,_,.tel [73] (.row 73 4 z3.objs.length (obs z3.objs) fun v=>.ret v),_,_,.tel [3] (.row 3 1 z3.fates.length (nts z3.fates) fun v=>.ret v),.tel [73,3] (shK z3 fun x y=>.ret (.agg #[x,y])),_,_,.any] [] [⟨10,_,_,_,6,.tel [73,3] (shK z3 fun x y=>.ret (.agg #[x,y]))⟩] [5] [] ⟨rfl,trivial⟩ (fun Bs=>⟨kv (oP (PR.mv ez)),kv (oP (PR.fa ez)),kv (oP (PR.ld ed (mk' 0))),kv (oE (fun _ _ h=>h.size) (fun _ _ h=>cln_ob (hS.a3.o.below h.low) (obs_one _) hS.a3.ho)),kv (oP (PR.fa ez)),kv (oP (PR.ld ed (mk' 0))),kv (oE (fun _ _ h=>h.size) (fun _ _ h=>cln_in (hS.a3.f.below h.low) (nts_one _) hS.a3.hf)),kv oB2,kv (oP (PR.fa ez)),kv (oP (PR.ia 3 ed ed)),ks 0,trivial⟩) (fun x3 y3=>?_))
 refine kM 5 #[x0,y0,x1,y1,x2,y2,x3,y3,u4,v4,i6 left] ?_
 refine os 0 (fun ox3 cx3=>?_)
 refine os 1 (fun oy3 cy3=>?_)
 refine bN (nN (rg0 (pp (PR.ad 4) (p1 .mv (en0 (nN (kL [(1,pt g0),(2,pt g1),(6,.agg #[u0,v0,u1,v1,u2,v2,u3,v3,u4,v4]),(7,i6 4)] ?_)))))))
 refine un (r1 .lss (se (ct (sk (nN (se (bl (rg (p1 .mv (pp (PR.xl 4 [u4,v4]) (aa Tryz.zeroValue28 (fun g6=>p1 .as (sw 0 ?_)))))))))))))
 refine en (dr0 [_,_,_,.tel [73] (.row 73 4 z4.objs.length (obs z4.objs) fun v=>.ret v),_,_,.tel [3] (.row 3 1 z4.fates.length (nts z4.fates) fun v=>.ret v),.tel [73,3] (shK z4 fun x y=>.ret (.agg #[x,y])),_,_,.any] [] [⟨10,_,_,_,8,.tel [73,3] (shK z4 fun x y=>.ret (.agg #[x,y]))⟩] [6] [] ⟨rfl,trivial⟩ (fun Bs=>⟨kv (oP (PR.mv ez)),kv (oP (PR.fa ez)),kv (oP (PR.ld ed (mk' 0))),kv (oE (fun _ _ h=>h.size) (fun _ _ h=>cln_ob (hS.a4.o.below h.low) (obs_one _) hS.a4.ho)),kv (oP (PR.fa ez)),kv (oP (PR.ld ed (mk' 0))),kv (oE (fun _ _ h=>h.size) (fun _ _ h=>cln_in (hS.a4.f.below h.low) (nts_one _) hS.a4.hf)),kv oB2,kv (oP (PR.fa ez)),kv (oP (PR.ia 4 ed ed)),ks 0,trivial⟩) (fun x4 y4=>?_))
 refine kM 6 #[x0,y0,x1,y1,x2,y2,x3,y3,x4,y4,i6 left] ?_
 refine os 0 (fun ox4 cx4=>?_)
 refine os 1 (fun oy4 cy4=>?_)
 refine bN (nN ?_)
 refine rg0 (pp (PR.ad 5) (p1 .mv (en0 (nN (kL [(1,pt g0),(2,pt g1),(6,.agg #[u0,v0,u1,v1,u2,v2,u3,v3,u4,v4]),(7,i6 5)] (un (r1 .lss (se (cf (xt (nX (nX (bH (nN (rg (p1 .lw (sw 5 ?_)))))))))))))))))
 exact en (rt (et [8,9,6,7,4,5,2,3,0,1]))
abbrev stZ (Z:Nat->Shf)(k:Value->Value->Value->Value->Value->Value->Value->Value->Value->Value->Tele):Tele:=stT (Z 0) (Z 1) (Z 2) (Z 3) (Z 4) k
def tlD (l:Int)(s:Shf)(nm:List UInt8):List UInt8:=if l=0 then [] else(toldS s nm).1
def tlE (l:Int)(s:Shf)(nm:List UInt8):Int:=if l=0 then 17 else(toldS s nm).2
def tlT (l:Int)(s:Shf)(nm:List UInt8):Bool:=!decide (l=0)&&decide (askS s.objs nm=0)
def lf (l:Int):Int:=if 0<l then l-1 else l
theorem lf_in {l:Int}(h:-9223372036854775808<=l/\l<=9223372036854775807):-9223372036854775808<=lf l/\lf l<=9223372036854775807:=by unfold lf;split <;> omega
abbrev shR (s:Shf)(x y:Value):List Rw:=[⟨x,73,4,s.objs.length,obs s.objs⟩,⟨y,3,1,s.fates.length,nts s.fates⟩]
structure ShB (s:Shf):Prop where
 ho:s.objs.length<2^36
 hf:s.fates.length<2^36
 hd:∀ i,(s.objs.getD i noOb).da.length<2^61
theorem cond_one {b:Bool}{u v:Value}(h:u.oneCell'=true)(h2:v.oneCell'=true):(cond b u v).oneCell'=true:=by cases b <;> assumption
theorem gacl {w0:World}{M0:MT}{R0:List Rw}{gt gn i:Nat}{cs:Array Value}{l:Int}{u v:Value}{s:Shf}{nm:List UInt8}(hB:ShB s)(hi:i<5)(hz:cs.size=15):RM 164 #[i6 (i:Int),.agg #[u,v],.bool (decide (l=0)),pt gt,pt gn] w0 ((gt,isB 208 cs)::(gn,isB 9 #[sv nm])::M0) (shR s u v++R0) (A:=Value×Value) (fun _=>True) (fun q=>.agg #[q.1,cond (tlT l s nm) (tkV s q.2) q.2]) (fun _=>(gt,isB 208 (spl cs (0+i*3) [sv (tlD l s nm),i6 (tlE l s nm),.bool (decide (l=0))]))::(gn,isB 9 #[sv nm])::M0) (fun q=>shR s q.1 q.2++R0):=by
 refine enterM Tryz.func164 ?_
 refine os 0 (fun ou cu=>?_)
 refine os 1 (fun ov cv=>?_)
 refine rg (ba (fun g0=>?_))
 refine aa Tryz.zeroValue28 (fun g1=>en (se (r1 .mv (sd (fun hl=>?_) (fun hl=>?_)))))
 ·have e1:tlD l s nm = []:=if_pos hl
  have e2:tlE l s nm=17:=if_pos hl
  have e3:tlT l s nm=false:=by unfold tlT;rw[decide_eq_true hl];rfl
  rw[e1,e2,e3,decide_eq_true hl]
  refine rg (p1 .mv (pp (PR.bd #[.string ⟨#[]⟩,i6 17,.bool true]) (pp (PR.ia i) (sc (i:=2) (ho:=by omega) ?_))))
  refine en (rg (p1 .lw (sw 0 ?_)))
  exact en (rt (nR (rm (u,v) trivial su)))
 ·have e1:tlD l s nm=(toldS s nm).1:=if_neg hl
  have e2:tlE l s nm=(toldS s nm).2:=if_neg hl
  have e3:tlT l s nm=decide (askS s.objs nm=0):=by unfold tlT;rw[decide_eq_false hl];rfl
  rw[e1,e2,e3,decide_eq_false hl]
  refine sk (nN (rg (p2 .lw .ld (ce (fun _ _ h=>stold nm ⟨h.s 0,h.s 1,hB.ho,hB.hf⟩ hB.hd) (fun x y=>?_)))))
  refine os 0 (fun ox cx=>?_)
  refine os 1 (fun oy cy=>?_)
  have oc:=cond_one (b:=decide (askS s.objs nm=0)) (tkV_one (s:=s) oy) oy
  refine p4 .mv .ext .ext .ext (sw 1 ?_)
  refine p2 .as .as (en (rg (p3 .mv .mv .mv (pp (PR.bd #[sv ((toldS s nm).1),i6 ((toldS s nm).2),.bool false]) (pp (PR.ia i) (sc (i:=2) (ho:=by omega) ?_))))))
  refine en (rg (p1 .lw (sw 0 ?_)))
  exact en (rt (rm (x,y) trivial su))
structure V10 where
 a0:Value
 b0:Value
 a1:Value
 b1:Value
 a2:Value
 b2:Value
 a3:Value
 b3:Value
 a4:Value
 b4:Value
theorem gall {w0:World}{M0:MT}{R0:List Rw}{gt gn:Nat}{nm:List UInt8}{left:Int}{u0 v0 u1 v1 u2 v2 u3 v3 u4 v4:Value}{z0 z1 z2 z3 z4:Shf}(hS:StoIn w0 u0 v0 u1 v1 u2 v2 u3 v3 u4 v4 z0 z1 z2 z3 z4)(hl:-9223372036854775808<=left/\left<=9223372036854775807)(hB0:ShB z0)(hB1:ShB z1)(hB2:ShB z2)(hB3:ShB z3)(hB4:ShB z4):RM 82 #[.agg #[u0,v0,u1,v1,u2,v2,u3,v3,u4,v4,i6 left],.func (.func 164) #[] #[pt gt,pt gn]] w0 ((gt,isB 208 #[.string ⟨#[]⟩,i6 0,.bool false,.string ⟨#[]⟩,i6 0,.bool false,.string ⟨#[]⟩,i6 0,.bool false,.string ⟨#[]⟩,i6 0,.bool false,.string ⟨#[]⟩,i6 0,.bool false])::(gn,isB 9 #[sv nm])::M0) R0 (A:=V10) (fun _=>True) (fun q=>.agg #[q.a0,cond (tlT left z0 nm) (tkV z0 q.b0) q.b0,q.a1,cond (tlT (lf left) z1 nm) (tkV z1 q.b1) q.b1,q.a2,cond (tlT (lf (lf left)) z2 nm) (tkV z2 q.b2) q.b2,q.a3,cond (tlT (lf (lf (lf left))) z3 nm) (tkV z3 q.b3) q.b3,q.a4,cond (tlT (lf (lf (lf (lf left)))) z4 nm) (tkV z4 q.b4) q.b4,i6 (lf (lf (lf (lf (lf left)))))]) (fun _=>(gt,isB 208 #[sv (tlD left z0 nm),i6 (tlE left z0 nm),.bool (decide (left=0)),sv (tlD (lf left) z1 nm),i6 (tlE (lf left) z1 nm),.bool (decide ((lf left)=0)),sv (tlD (lf (lf left)) z2 nm),i6 (tlE (lf (lf left)) z2 nm),.bool (decide ((lf (lf left))=0)),sv (tlD (lf (lf (lf left))) z3 nm),i6 (tlE (lf (lf (lf left))) z3 nm),.bool (decide ((lf (lf (lf left)))=0)),sv (tlD (lf (lf (lf (lf left)))) z4 nm),i6 (tlE (lf (lf (lf (lf left)))) z4 nm),.bool (decide ((lf (lf (lf (lf left))))=0))])::(gn,isB 9 #[sv nm])::M0) (fun q=>shR z4 q.a4 q.b4++(shR z3 q.a3 q.b3++(shR z2 q.a2 q.b2++(shR z1 q.a1 q.b1++(shR z0 q.a0 q.b0++R0))))):=by
 refine enterM Tryz.func82 ?_
 obtain⟨h0,h1,h2,h3,h4,h5,h6,h7,h8,h9⟩:=hS.one
 have hl1:=lf_in hl
 have hl2:=lf_in hl1
 have hl3:=lf_in hl2
 have hl4:=lf_in hl3
 refine rg (ba (fun g0=>?_))
 refine aa Tryz.zeroValue31 (fun g1=>en (rg (p1 .lw (ce (fun _ _ h=>stcop (hS.below h.m.below)) (fun x0 y0 x1 y1 x2 y2 x3 y3 x4 y4=>?_)))))
 refine osL 10 ?_
 iterate 20 intro
 refine sw 1 ?_
 refine en (se (rg (p1 .fa (pp (PR.ls [x0,y0,x1,y1,x2,y2,x3,y3,x4,y4]) (p1 .mv (en (bl (lr 6 (kL [(1,.func (.func 164) #[] #[pt gt,pt gn]),(2,pt g0),(4,pt g1),(11,.agg #[x0,y0,x1,y1,x2,y2,x3,y3,x4,y4]),(12,i6 0)] ?_)))))))))
 refine un (r1 .lss (se (ct (sk (nN (se (bl (rg (p1 .mv (pp (PR.xl 0 [x0,y0]) (aa Tryz.zeroValue28 (fun g2=>p1 .as (sw 0 ?_)))))))))))))
 refine en (r4 .fa .ld .eqi .as (jn [(1,.func (.func 164) #[] #[pt gt,pt gn]),(2,pt g0),(4,pt g1),(5,i6 0),(6,pt g2),(7,.bool (decide (left=0))),(11,.agg #[x0,y0,x1,y1,x2,y2,x3,y3,x4,y4]),(12,i6 0)] ((g2,isB 28 #[x0,y0])::(g1,isB 31 #[nv,nv,nv,nv,nv,nv,nv,nv,nv,nv,i6 0])::(g0,isB 31 #[x0,y0,x1,y1,x2,y2,x3,y3,x4,y4,i6 (lf left)])::(gt,isB 208 #[.string ⟨#[]⟩,i6 0,.bool false,.string ⟨#[]⟩,i6 0,.bool false,.string ⟨#[]⟩,i6 0,.bool false,.string ⟨#[]⟩,i6 0,.bool false,.string ⟨#[]⟩,i6 0,.bool false])::(gn,isB 9 #[sv nm])::M0) (⟨x0,73,4,z0.objs.length,(obs z0.objs)⟩::⟨y0,3,1,z0.fates.length,(nts z0.fates)⟩::⟨x1,73,4,z1.objs.length,(obs z1.objs)⟩::⟨y1,3,1,z1.fates.length,(nts z1.fates)⟩::⟨x2,73,4,z2.objs.length,(obs z2.objs)⟩::⟨y2,3,1,z2.fates.length,(nts z2.fates)⟩::⟨x3,73,4,z3.objs.length,(obs z3.objs)⟩::⟨y3,3,1,z3.fates.length,(nts z3.fates)⟩::⟨x4,73,4,z4.objs.length,(obs z4.objs)⟩::⟨y4,3,1,z4.fates.length,(nts z4.fates)⟩::R0) ?_ ?_))
 ·skip
  refine r3 .fa .ld .gtr (sd (fun hg=>?_) (fun hg=>?_))
  ·skip
   refine rg0 (p2 .fa .ld (pp (PR.sb ((lf left)) (h:=by rw[show(lf left)=left-1 from if_pos hg];omega)) (p1 .fa (s1 2 (cs:=#[x0,y0,x1,y1,x2,y2,x3,y3,x4,y4,i6 (lf left)]) ?_))))
   exact en0 (nN (je su))
  ·rw[show(lf left)=left from if_neg hg]
   exact sk (nN (je su))
 ·skip
  refine fr [4,4] [1,1] ?_
  refine rg0 (p5 .mv .mv .mv .lw .mv (cmF (gacl (i:=0) (l:=left) (s:=z0) hB0 (by omega) rfl) (fun⟨a0,b0⟩ _=>?_)))
  refine kM 0 #[sv (tlD left z0 nm),i6 (tlE left z0 nm),.bool (decide (left=0)),.string ⟨#[]⟩,i6 0,.bool false,.string ⟨#[]⟩,i6 0,.bool false,.string ⟨#[]⟩,i6 0,.bool false,.string ⟨#[]⟩,i6 0,.bool false] ?_
  refine os 0 (fun oa0 ca0=>?_)
  refine os 1 (fun ob0 cb0=>?_)
  have oc0:=cond_one (b:=tlT left z0 nm) (tkV_one (s:=z0) ob0) ob0
  refine p1 .fa (pp (PR.ia 0) (sc 4 (cs:=#[a0,(cond (tlT left z0 nm) (tkV z0 b0) b0),x1,y1,x2,y2,x3,y3,x4,y4,i6 (lf left)]) ?_))
  refine en0 (bN (nN (rg0 (pp (PR.ad 1) (p1 .mv (en0 (nN (kL [(1,.func (.func 164) #[] #[pt gt,pt gn]),(2,pt g0),(4,pt g1),(11,.agg #[x0,y0,x1,y1,x2,y2,x3,y3,x4,y4]),(12,i6 1)] ?_))))))))
  refine un (r1 .lss (se (ct (sk (nN (se (bl (rg (p1 .mv (pp (PR.xl 1 [x1,y1]) (aa Tryz.zeroValue28 (fun g3=>p1 .as (sw 0 ?_)))))))))))))
  refine en (r4 .fa .ld .eqi .as (jn [(1,.func (.func 164) #[] #[pt gt,pt gn]),(2,pt g0),(4,pt g1),(5,i6 1),(6,pt g3),(7,.bool (decide ((lf left)=0))),(11,.agg #[x0,y0,x1,y1,x2,y2,x3,y3,x4,y4]),(12,i6 1)] ((g3,isB 28 #[x1,y1])::(gt,isB 208 #[sv (tlD left z0 nm),i6 (tlE left z0 nm),.bool (decide (left=0)),.string ⟨#[]⟩,i6 0,.bool false,.string ⟨#[]⟩,i6 0,.bool false,.string ⟨#[]⟩,i6 0,.bool false,.string ⟨#[]⟩,i6 0,.bool false])::(gn,isB 9 #[sv nm])::(g2,isB 28 #[x0,y0])::(g1,isB 31 #[nv,nv,nv,nv,nv,nv,nv,nv,nv,nv,i6 0])::(g0,isB 31 #[a0,(cond (tlT left z0 nm) (tkV z0 b0) b0),x1,y1,x2,y2,x3,y3,x4,y4,i6 (lf (lf left))])::M0) (⟨a0,73,4,z0.objs.length,(obs z0.objs)⟩::⟨b0,3,1,z0.fates.length,(nts z0.fates)⟩::⟨x1,73,4,z1.objs.length,(obs z1.objs)⟩::⟨y1,3,1,z1.fates.length,(nts z1.fates)⟩::⟨x2,73,4,z2.objs.length,(obs z2.objs)⟩::⟨y2,3,1,z2.fates.length,(nts z2.fates)⟩::⟨x3,73,4,z3.objs.length,(obs z3.objs)⟩::⟨y3,3,1,z3.fates.length,(nts z3.fates)⟩::⟨x4,73,4,z4.objs.length,(obs z4.objs)⟩::⟨y4,3,1,z4.fates.length,(nts z4.fates)⟩::R0) ?_ ?_))
  ·skip
   refine r3 .fa .ld .gtr (sd (fun hg=>?_) (fun hg=>?_))
   ·skip
    refine rg0 (p2 .fa .ld (pp (PR.sb ((lf (lf left))) (h:=by rw[show(lf (lf left))=(lf left)-1 from if_pos hg];omega)) (p1 .fa (s1 5 (cs:=#[a0,(cond (tlT left z0 nm) (tkV z0 b0) b0),x1,y1,x2,y2,x3,y3,x4,y4,i6 (lf (lf left))]) ?_))))
    exact en0 (nN (je su))
   ·rw[show(lf (lf left))=(lf left) from if_neg hg]
    exact sk (nN (je su))
  ·skip
   refine fr [2,2] [3,3] ?_
   refine rg0 (p5 .mv .mv .mv .lw .mv (cmF (gacl (i:=1) (l:=(lf left)) (s:=z1) hB1 (by omega) rfl) (fun⟨a1,b1⟩ _=>?_)))
   refine kM 0 #[sv (tlD left z0 nm),i6 (tlE left z0 nm),.bool (decide (left=0)),sv (tlD (lf left) z1 nm),i6 (tlE (lf left) z1 nm),.bool (decide ((lf left)=0)),.string ⟨#[]⟩,i6 0,.bool false,.string ⟨#[]⟩,i6 0,.bool false,.string ⟨#[]⟩,i6 0,.bool false] ?_
   refine os 0 (fun oa1 ca1=>?_)
   refine os 1 (fun ob1 cb1=>?_)
   have oc1:=cond_one (b:=tlT (lf left) z1 nm) (tkV_one (s:=z1) ob1) ob1
   refine p1 .fa (pp (PR.ia 1) (sc 5 (cs:=#[a0,(cond (tlT left z0 nm) (tkV z0 b0) b0),a1,(cond (tlT (lf left) z1 nm) (tkV z1 b1) b1),x2,y2,x3,y3,x4,y4,i6 (lf (lf left))]) ?_))
   refine en0 (bN (nN (rg0 (pp (PR.ad 2) (p1 .mv (en0 (nN (kL [(1,.func (.func 164) #[] #[pt gt,pt gn]),(2,pt g0),(4,pt g1),(11,.agg #[x0,y0,x1,y1,x2,y2,x3,y3,x4,y4]),(12,i6 2)] ?_))))))))
   refine un (r1 .lss (se (ct (sk (nN (se (bl (rg (p1 .mv (pp (PR.xl 2 [x2,y2]) (aa Tryz.zeroValue28 (fun g4=>p1 .as (sw 0 ?_)))))))))))))
   refine en (r4 .fa .ld .eqi .as (jn [(1,.func (.func 164) #[] #[pt gt,pt gn]),(2,pt g0),(4,pt g1),(5,i6 2),(6,pt g4),(7,.bool (decide ((lf (lf left))=0))),(11,.agg #[x0,y0,x1,y1,x2,y2,x3,y3,x4,y4]),(12,i6 2)] ((g4,isB 28 #[x2,y2])::(gt,isB 208 #[sv (tlD left z0 nm),i6 (tlE left z0 nm),.bool (decide (left=0)),sv (tlD (lf left) z1 nm),i6 (tlE (lf left) z1 nm),.bool (decide ((lf left)=0)),.string ⟨#[]⟩,i6 0,.bool false,.string ⟨#[]⟩,i6 0,.bool false,.string ⟨#[]⟩,i6 0,.bool false])::(gn,isB 9 #[sv nm])::(g3,isB 28 #[x1,y1])::(g2,isB 28 #[x0,y0])::(g1,isB 31 #[nv,nv,nv,nv,nv,nv,nv,nv,nv,nv,i6 0])::(g0,isB 31 #[a0,(cond (tlT left z0 nm) (tkV z0 b0) b0),a1,(cond (tlT (lf left) z1 nm) (tkV z1 b1) b1),x2,y2,x3,y3,x4,y4,i6 (lf (lf (lf left)))])::M0) (⟨a1,73,4,z1.objs.length,(obs z1.objs)⟩::⟨b1,3,1,z1.fates.length,(nts z1.fates)⟩::⟨a0,73,4,z0.objs.length,(obs z0.objs)⟩::⟨b0,3,1,z0.fates.length,(nts z0.fates)⟩::⟨x2,73,4,z2.objs.length,(obs z2.objs)⟩::⟨y2,3,1,z2.fates.length,(nts z2.fates)⟩::⟨x3,73,4,z3.objs.length,(obs z3.objs)⟩::⟨y3,3,1,z3.fates.length,(nts z3.fates)⟩::⟨x4,73,4,z4.objs.length,(obs z4.objs)⟩::⟨y4,3,1,z4.fates.length,(nts z4.fates)⟩::R0) ?_ ?_))
   ·skip
    refine r3 .fa .ld .gtr (sd (fun hg=>?_) (fun hg=>?_))
    ·skip
     refine rg0 (p2 .fa .ld (pp (PR.sb ((lf (lf (lf left)))) (h:=by rw[show(lf (lf (lf left)))=(lf (lf left))-1 from if_pos hg];omega)) (p1 .fa (s1 6 (cs:=#[a0,(cond (tlT left z0 nm) (tkV z0 b0) b0),a1,(cond (tlT (lf left) z1 nm) (tkV z1 b1) b1),x2,y2,x3,y3,x4,y4,i6 (lf (lf (lf left)))]) ?_))))
     exact en0 (nN (je su))
    ·rw[show(lf (lf (lf left)))=(lf (lf left)) from if_neg hg]
     exact sk (nN (je su))
   ·skip
    refine fr [2,2] [5,5] ?_
    refine rg0 (p5 .mv .mv .mv .lw .mv (cmF (gacl (i:=2) (l:=(lf (lf left))) (s:=z2) hB2 (by omega) rfl) (fun⟨a2,b2⟩ _=>?_)))
    refine kM 0 #[sv (tlD left z0 nm),i6 (tlE left z0 nm),.bool (decide (left=0)),sv (tlD (lf left) z1 nm),i6 (tlE (lf left) z1 nm),.bool (decide ((lf left)=0)),sv (tlD (lf (lf left)) z2 nm),i6 (tlE (lf (lf left)) z2 nm),.bool (decide ((lf (lf left))=0)),.string ⟨#[]⟩,i6 0,.bool false,.string ⟨#[]⟩,i6 0,.bool false] ?_
    refine os 0 (fun oa2 ca2=>?_)
    refine os 1 (fun ob2 cb2=>?_)
    have oc2:=cond_one (b:=tlT (lf (lf left)) z2 nm) (tkV_one (s:=z2) ob2) ob2
    refine p1 .fa (pp (PR.ia 2) (sc 6 (cs:=#[a0,(cond (tlT left z0 nm) (tkV z0 b0) b0),a1,(cond (tlT (lf left) z1 nm) (tkV z1 b1) b1),a2,(cond (tlT (lf (lf left)) z2 nm) (tkV z2 b2) b2),x3,y3,x4,y4,i6 (lf (lf (lf left)))]) ?_))
    refine en0 (bN (nN (rg0 (pp (PR.ad 3) (p1 .mv (en0 (nN (kL [(1,.func (.func 164) #[] #[pt gt,pt gn]),(2,pt g0),(4,pt g1),(11,.agg #[x0,y0,x1,y1,x2,y2,x3,y3,x4,y4]),(12,i6 3)] ?_))))))))
    refine un (r1 .lss (se (ct (sk (nN (se (bl (rg (p1 .mv (pp (PR.xl 3 [x3,y3]) (aa Tryz.zeroValue28 (fun g5=>p1 .as (sw 0 ?_)))))))))))))
    refine en (r4 .fa .ld .eqi .as (jn [(1,.func (.func 164) #[] #[pt gt,pt gn]),(2,pt g0),(4,pt g1),(5,i6 3),(6,pt g5),(7,.bool (decide ((lf (lf (lf left)))=0))),(11,.agg #[x0,y0,x1,y1,x2,y2,x3,y3,x4,y4]),(12,i6 3)] ((g5,isB 28 #[x3,y3])::(gt,isB 208 #[sv (tlD left z0 nm),i6 (tlE left z0 nm),.bool (decide (left=0)),sv (tlD (lf left) z1 nm),i6 (tlE (lf left) z1 nm),.bool (decide ((lf left)=0)),sv (tlD (lf (lf left)) z2 nm),i6 (tlE (lf (lf left)) z2 nm),.bool (decide ((lf (lf left))=0)),.string ⟨#[]⟩,i6 0,.bool false,.string ⟨#[]⟩,i6 0,.bool false])::(gn,isB 9 #[sv nm])::(g4,isB 28 #[x2,y2])::(g3,isB 28 #[x1,y1])::(g2,isB 28 #[x0,y0])::(g1,isB 31 #[nv,nv,nv,nv,nv,nv,nv,nv,nv,nv,i6 0])::(g0,isB 31 #[a0,(cond (tlT left z0 nm) (tkV z0 b0) b0),a1,(cond (tlT (lf left) z1 nm) (tkV z1 b1) b1),a2,(cond (tlT (lf (lf left)) z2 nm) (tkV z2 b2) b2),x3,y3,x4,y4,i6 (lf (lf (lf (lf left))))])::M0) (⟨a2,73,4,z2.objs.length,(obs z2.objs)⟩::⟨b2,3,1,z2.fates.length,(nts z2.fates)⟩::⟨a1,73,4,z1.objs.length,(obs z1.objs)⟩::⟨b1,3,1,z1.fates.length,(nts z1.fates)⟩::⟨a0,73,4,z0.objs.length,(obs z0.objs)⟩::⟨b0,3,1,z0.fates.length,(nts z0.fates)⟩::⟨x3,73,4,z3.objs.length,(obs z3.objs)⟩::⟨y3,3,1,z3.fates.length,(nts z3.fates)⟩::⟨x4,73,4,z4.objs.length,(obs z4.objs)⟩::⟨y4,3,1,z4.fates.length,(nts z4.fates)⟩::R0) ?_ ?_))
    ·skip
     refine r3 .fa .ld .gtr (sd (fun hg=>?_) (fun hg=>?_))
     ·skip
      refine rg0 (p2 .fa .ld (pp (PR.sb ((lf (lf (lf (lf left))))) (h:=by rw[show(lf (lf (lf (lf left))))=(lf (lf (lf left)))-1 from if_pos hg];omega)) (p1 .fa (s1 7 (cs:=#[a0,(cond (tlT left z0 nm) (tkV z0 b0) b0),a1,(cond (tlT (lf left) z1 nm) (tkV z1 b1) b1),a2,(cond (tlT (lf (lf left)) z2 nm) (tkV z2 b2) b2),x3,y3,x4,y4,i6 (lf (lf (lf (lf left))))]) ?_))))
      exact en0 (nN (je su))
     ·rw[show(lf (lf (lf (lf left))))=(lf (lf (lf left))) from if_neg hg]
      exact sk (nN (je su))
    ·skip
     refine fr [2,2] [7,7] ?_
     refine rg0 (p5 .mv .mv .mv .lw .mv (cmF (gacl (i:=3) (l:=(lf (lf (lf left)))) (s:=z3) hB3 (by omega) rfl) (fun⟨a3,b3⟩ _=>?_)))
     refine kM 0 #[sv (tlD left z0 nm),i6 (tlE left z0 nm),.bool (decide (left=0)),sv (tlD (lf left) z1 nm),i6 (tlE (lf left) z1 nm),.bool (decide ((lf left)=0)),sv (tlD (lf (lf left)) z2 nm),i6 (tlE (lf (lf left)) z2 nm),.bool (decide ((lf (lf left))=0)),sv (tlD (lf (lf (lf left))) z3 nm),i6 (tlE (lf (lf (lf left))) z3 nm),.bool (decide ((lf (lf (lf left)))=0)),.string ⟨#[]⟩,i6 0,.bool false] ?_
     refine os 0 (fun oa3 ca3=>?_)
     refine os 1 (fun ob3 cb3=>?_)
     have oc3:=cond_one (b:=tlT (lf (lf (lf left))) z3 nm) (tkV_one (s:=z3) ob3) ob3
     refine p1 .fa (pp (PR.ia 3) (sc 7 (cs:=#[a0,(cond (tlT left z0 nm) (tkV z0 b0) b0),a1,(cond (tlT (lf left) z1 nm) (tkV z1 b1) b1),a2,(cond (tlT (lf (lf left)) z2 nm) (tkV z2 b2) b2),a3,(cond (tlT (lf (lf (lf left))) z3 nm) (tkV z3 b3) b3),x4,y4,i6 (lf (lf (lf (lf left))))]) ?_))
     refine en0 (bN (nN (rg0 (pp (PR.ad 4) (p1 .mv (en0 (nN (kL [(1,.func (.func 164) #[] #[pt gt,pt gn]),(2,pt g0),(4,pt g1),(11,.agg #[x0,y0,x1,y1,x2,y2,x3,y3,x4,y4]),(12,i6 4)] ?_))))))))
     refine un (r1 .lss (se (ct (sk (nN (se (bl (rg (p1 .mv (pp (PR.xl 4 [x4,y4]) (aa Tryz.zeroValue28 (fun g6=>p1 .as (sw 0 ?_)))))))))))))
     refine en (r4 .fa .ld .eqi .as (jn [(1,.func (.func 164) #[] #[pt gt,pt gn]),(2,pt g0),(4,pt g1),(5,i6 4),(6,pt g6),(7,.bool (decide ((lf (lf (lf (lf left))))=0))),(11,.agg #[x0,y0,x1,y1,x2,y2,x3,y3,x4,y4]),(12,i6 4)] ((g6,isB 28 #[x4,y4])::(gt,isB 208 #[sv (tlD left z0 nm),i6 (tlE left z0 nm),.bool (decide (left=0)),sv (tlD (lf left) z1 nm),i6 (tlE (lf left) z1 nm),.bool (decide ((lf left)=0)),sv (tlD (lf (lf left)) z2 nm),i6 (tlE (lf (lf left)) z2 nm),.bool (decide ((lf (lf left))=0)),sv (tlD (lf (lf (lf left))) z3 nm),i6 (tlE (lf (lf (lf left))) z3 nm),.bool (decide ((lf (lf (lf left)))=0)),.string ⟨#[]⟩,i6 0,.bool false])::(gn,isB 9 #[sv nm])::(g5,isB 28 #[x3,y3])::(g4,isB 28 #[x2,y2])::(g3,isB 28 #[x1,y1])::(g2,isB 28 #[x0,y0])::(g1,isB 31 #[nv,nv,nv,nv,nv,nv,nv,nv,nv,nv,i6 0])::(g0,isB 31 #[a0,(cond (tlT left z0 nm) (tkV z0 b0) b0),a1,(cond (tlT (lf left) z1 nm) (tkV z1 b1) b1),a2,(cond (tlT (lf (lf left)) z2 nm) (tkV z2 b2) b2),a3,(cond (tlT (lf (lf (lf left))) z3 nm) (tkV z3 b3) b3),x4,y4,i6 (lf (lf (lf (lf (lf left)))))])::M0) (⟨a3,73,4,z3.objs.length,(obs z3.objs)⟩::⟨b3,3,1,z3.fates.length,(nts z3.fates)⟩::⟨a2,73,4,z2.objs.length,(obs z2.objs)⟩::⟨b2,3,1,z2.fates.length,(nts z2.fates)⟩::⟨a1,73,4,z1.objs.length,(obs z1.objs)⟩::⟨b1,3,1,z1.fates.length,(nts z1.fates)⟩::⟨a0,73,4,z0.objs.length,(obs z0.objs)⟩::⟨b0,3,1,z0.fates.length,(nts z0.fates)⟩::⟨x4,73,4,z4.objs.length,(obs z4.objs)⟩::⟨y4,3,1,z4.fates.length,(nts z4.fates)⟩::R0) ?_ ?_))
     ·skip
      refine r3 .fa .ld .gtr (sd (fun hg=>?_) (fun hg=>?_))
      ·skip
       refine rg0 (p2 .fa .ld (pp (PR.sb ((lf (lf (lf (lf (lf left)))))) (h:=by rw[show(lf (lf (lf (lf (lf left)))))=(lf (lf (lf (lf left))))-1 from if_pos hg];omega)) (p1 .fa (s1 8 (cs:=#[a0,(cond (tlT left z0 nm) (tkV z0 b0) b0),a1,(cond (tlT (lf left) z1 nm) (tkV z1 b1) b1),a2,(cond (tlT (lf (lf left)) z2 nm) (tkV z2 b2) b2),a3,(cond (tlT (lf (lf (lf left))) z3 nm) (tkV z3 b3) b3),x4,y4,i6 (lf (lf (lf (lf (lf left)))))]) ?_))))
       exact en0 (nN (je su))
      ·rw[show(lf (lf (lf (lf (lf left)))))=(lf (lf (lf (lf left)))) from if_neg hg]
       exact sk (nN (je su))
     ·skip
      refine fr [2,2] [9,9] ?_
      refine rg0 (p5 .mv .mv .mv .lw .mv (cmF (gacl (i:=4) (l:=(lf (lf (lf (lf left))))) (s:=z4) hB4 (by omega) rfl) (fun⟨a4,b4⟩ _=>?_)))
      refine kM 0 #[sv (tlD left z0 nm),i6 (tlE left z0 nm),.bool (decide (left=0)),sv (tlD (lf left) z1 nm),i6 (tlE (lf left) z1 nm),.bool (decide ((lf left)=0)),sv (tlD (lf (lf left)) z2 nm),i6 (tlE (lf (lf left)) z2 nm),.bool (decide ((lf (lf left))=0)),sv (tlD (lf (lf (lf left))) z3 nm),i6 (tlE (lf (lf (lf left))) z3 nm),.bool (decide ((lf (lf (lf left)))=0)),sv (tlD (lf (lf (lf (lf left)))) z4 nm),i6 (tlE (lf (lf (lf (lf left)))) z4 nm),.bool (decide ((lf (lf (lf (lf left))))=0))] ?_
      refine os 0 (fun oa4 ca4=>?_)
      refine os 1 (fun ob4 cb4=>?_)
      have oc4:=cond_one (b:=tlT (lf (lf (lf (lf left)))) z4 nm) (tkV_one (s:=z4) ob4) ob4
      refine p1 .fa (pp (PR.ia 4) (sc 8 (cs:=#[a0,(cond (tlT left z0 nm) (tkV z0 b0) b0),a1,(cond (tlT (lf left) z1 nm) (tkV z1 b1) b1),a2,(cond (tlT (lf (lf left)) z2 nm) (tkV z2 b2) b2),a3,(cond (tlT (lf (lf (lf left))) z3 nm) (tkV z3 b3) b3),a4,(cond (tlT (lf (lf (lf (lf left)))) z4 nm) (tkV z4 b4) b4),i6 (lf (lf (lf (lf (lf left)))))]) ?_))
      refine en0 (bN (nN ?_))
      refine rg0 (pp (PR.ad 5) (p1 .mv (en0 (nN (kL [(1,.func (.func 164) #[] #[pt gt,pt gn]),(2,pt g0),(4,pt g1),(11,.agg #[x0,y0,x1,y1,x2,y2,x3,y3,x4,y4]),(12,i6 5)] (un (r1 .lss (se (cf (xt (nX (nX (bH (nN (rg (p1 .lw (sw 7 ?_)))))))))))))))))
      exact en (rt (rm ⟨a0,b0,a1,b1,a2,b2,a3,b3,a4,b4⟩ trivial su))
theorem getall {nm:List UInt8}{left:Int}{u0 v0 u1 v1 u2 v2 u3 v3 u4 v4:Value}{z0 z1 z2 z3 z4:Shf}{w:World}(hS:StoIn w u0 v0 u1 v1 u2 v2 u3 v3 u4 v4 z0 z1 z2 z3 z4)(hl:-9223372036854775808<=left/\left<=9223372036854775807)(hB0:ShB z0)(hB1:ShB z1)(hB2:ShB z2)(hB3:ShB z3)(hB4:ShB z4):RT 110 #[.agg #[u0,v0,u1,v1,u2,v2,u3,v3,u4,v4,i6 left],sv nm] w (stT z0 z1 z2 z3 z4 fun a b c d e f g h i j=>.ret (.tuple #[.agg #[a,cond (tlT left z0 nm) (tkV z0 b) b,c,cond (tlT (lf left) z1 nm) (tkV z1 d) d,e,cond (tlT (lf (lf left)) z2 nm) (tkV z2 f) f,g,cond (tlT (lf (lf (lf left))) z3 nm) (tkV z3 h) h,i,cond (tlT (lf (lf (lf (lf left)))) z4 nm) (tkV z4 j) j,i6 (lf (lf (lf (lf (lf left)))))],.agg #[sv (tlD left z0 nm),i6 (tlE left z0 nm),.bool (decide (left=0)),sv (tlD (lf left) z1 nm),i6 (tlE (lf left) z1 nm),.bool (decide ((lf left)=0)),sv (tlD (lf (lf left)) z2 nm),i6 (tlE (lf (lf left)) z2 nm),.bool (decide ((lf (lf left))=0)),sv (tlD (lf (lf (lf left))) z3 nm),i6 (tlE (lf (lf (lf left))) z3 nm),.bool (decide ((lf (lf (lf left)))=0)),sv (tlD (lf (lf (lf (lf left)))) z4 nm),i6 (tlE (lf (lf (lf (lf left)))) z4 nm),.bool (decide ((lf (lf (lf (lf left))))=0))]])):=by
 refine enter Tryz.func110 ?_
 obtain⟨h0,h1,h2,h3,h4,h5,h6,h7,h8,h9⟩:=hS.one
 refine rg (ba (fun g0=>?_))
 refine b1 (fun g1=>?_)
 refine aa Tryz.zeroValue31 (fun g2=>aa Tryz.zeroValue208 (fun g3=>en (rg (aa Tryz.zeroValue208 (fun g4=>en (fr [1,3] [] ?_))))))
 refine rg (p1 .lw (pp PR.mk (cm (gall hS hl hB0 hB1 hB2 hB3 hB4) (fun⟨a0,b0,a1,b1,a2,b2,a3,b3,a4,b4⟩ _=>?_))))
 refine os 0 (fun oa4 ca4=>?_)
 refine os 1 (fun ob4 cb4=>?_)
 have oc4:=cond_one (b:=tlT (lf (lf (lf (lf left)))) z4 nm) (tkV_one (s:=z4) ob4) ob4
 refine os 2 (fun oa3 ca3=>?_)
 refine os 3 (fun ob3 cb3=>?_)
 have oc3:=cond_one (b:=tlT (lf (lf (lf left))) z3 nm) (tkV_one (s:=z3) ob3) ob3
 refine os 4 (fun oa2 ca2=>?_)
 refine os 5 (fun ob2 cb2=>?_)
 have oc2:=cond_one (b:=tlT (lf (lf left)) z2 nm) (tkV_one (s:=z2) ob2) ob2
 refine os 6 (fun oa1 ca1=>?_)
 refine os 7 (fun ob1 cb1=>?_)
 have oc1:=cond_one (b:=tlT (lf left) z1 nm) (tkV_one (s:=z1) ob1) ob1
 refine os 8 (fun oa0 ca0=>?_)
 refine os 9 (fun ob0 cb0=>?_)
 have oc0:=cond_one (b:=tlT left z0 nm) (tkV_one (s:=z0) ob0) ob0
 refine sw 4 ?_
 refine en (dr [_,_,.any,.any] [] [⟨2,_,_,_,0,.val (.agg #[a0,(cond (tlT left z0 nm) (tkV z0 b0) b0),a1,(cond (tlT (lf left) z1 nm) (tkV z1 b1) b1),a2,(cond (tlT (lf (lf left)) z2 nm) (tkV z2 b2) b2),a3,(cond (tlT (lf (lf (lf left))) z3 nm) (tkV z3 b3) b3),a4,(cond (tlT (lf (lf (lf (lf left)))) z4 nm) (tkV z4 b4) b4),i6 (lf (lf (lf (lf (lf left)))))])⟩,⟨3,_,_,_,0,.val (.agg #[sv (tlD left z0 nm),i6 (tlE left z0 nm),.bool (decide (left=0)),sv (tlD (lf left) z1 nm),i6 (tlE (lf left) z1 nm),.bool (decide ((lf left)=0)),sv (tlD (lf (lf left)) z2 nm),i6 (tlE (lf (lf left)) z2 nm),.bool (decide ((lf (lf left))=0)),sv (tlD (lf (lf (lf left))) z3 nm),i6 (tlE (lf (lf (lf left))) z3 nm),.bool (decide ((lf (lf (lf left)))=0)),sv (tlD (lf (lf (lf (lf left)))) z4 nm),i6 (tlE (lf (lf (lf (lf left)))) z4 nm),.bool (decide ((lf (lf (lf (lf left))))=0))])⟩] [3,2] [] ⟨rfl,rfl,trivial⟩ (fun Bs=>⟨kv (oP (PR.lw ez (mk' 4))),kv (oP (PR.lw ez (mk' 0))),ks 0,ks 1,trivial⟩) ?_)
 exact rt (et [8,9,6,7,4,5,2,3,0,1])
theorem spmay (s:List UInt8)(w:World):RV 109 #[sv s] w (.bool (decide (1<=s.length/\s.length<=100))):=by
 refine enter Tryz.func109 ?_
 refine r1 .as (rg (p4 .mv .ln .geq .mv (gTt (hp:=PR.mv) ?_)))
 refine gTt (hp:=PR.ln) ?_
 refine gTt (hp:=PR.leq) ?_
 exact p2 .pand .as (en (rt (q1' rfl rfl (by congr 1;rw[←Bool.decide_and];exact decide_eq_decide.2 (by omega)))))
section
structure Fit where
 sz:Int
 sum:List UInt8
 i:Int
 d:List UInt8
def fitC (f:Fit):List Value:=[i6 f.sz,sv f.sum,i6 f.i,sv f.d]
def oneF (a b:Fit):Bool:=decide (a.sz=b.sz)&&decide (a.sum=b.sum)
section
variable {G:Kn}{x y:Operand}{t t2:TypeId}{p q:Int}
theorem PR.quo (r:Int)(hx:EV G x (i6 p):=by exact ev)(hy:EV G y (i6 q):=by exact ev)(h0:q≠0:=by decide)(h:p.tdiv q=r ∧ -9223372036854775808<=r/\r<=9223372036854775807):PR Tryz.prog G (.binOp .quo t x y t2) (i6 r):=fun a w _ ho hg=>run_quo ho (hx a w hg) (hy a w hg) h0 (wX h)
theorem PR.rem (r:Int)(hx:EV G x (i6 p):=by exact ev)(hy:EV G y (i6 q):=by exact ev)(h0:q≠0:=by decide)(h:p.tmod q=r):PR Tryz.prog G (.binOp .rem t x y t2) (i6 r):=fun a w _ ho hg=>run_rem ho (hx a w hg) (hy a w hg) h0 h
end
def rowsP (n:Int):Int:=if n<0 then 0 else(n+2)/3
theorem jone (a b:Fit)(w:World):RV 167 #[.agg (fitC a).toArray,.agg (fitC b).toArray] w (.bool (oneF a b)):=by
 refine enter Tryz.func167 ?_
 refine rg (ba (cs:=(fitC a).toArray) (fun g0=>?_))
 refine ba (cs:=(fitC b).toArray) (fun g1=>?_)
 refine p1 .as (en (rg (p5 .fa .ld .fa .ld .eqi (p1 .mv (gTt (hp:=PR.fa) ?_)))))
 refine gTt (hp:=PR.ld) ?_
 refine gTt (hp:=PR.fa) ?_
 refine gTt (hp:=PR.ld) ?_
 refine gTt (hp:=PR.eqs) ?_
 exact p2 .pand .as (en (rt q1))
theorem prows (n:Int)(w:World)(h:n<=9223372036854775807):RV 155 #[i6 n] w (i6 (rowsP n)):=by
 refine enter Tryz.func155 ?_
 refine r1 .as (se (r2 .mv .lss (sd (fun hn=>?_) (fun hn=>?_))))
 ·rw[rowsP,if_pos hn]
  exact r1 .as (rt (nR (q1' rfl rfl (congrArg _ (by omega)))))
 ·rw[rowsP,if_neg hn]
  refine sk (nN (rg (p1 .mv (pp (PR.quo (n/3) (h:=⟨Int.tdiv_eq_ediv_of_nonneg (by omega),by omega,by omega⟩)) (p1 .as (en (se (rg (p1 .mv (pp (PR.rem (n%3) (h:=Int.tmod_eq_emod_of_nonneg (by omega))) (p1 .nei (en (sd (fun hr=>?_) (fun hr=>?_))))))))))))))
  ·skip
   exact rg0 (p1 .mv (pp (PR.ad (n/3+1)) (p1 .as (en0 (nN (r2 .mv .as (rt (q1' rfl rfl (congrArg _ (by omega))))))))))
  ·have hr:n%3=0:=Decidable.not_not.1 hr
   exact sk (nN (r2 .mv .as (rt (q1' rfl rfl (congrArg _ (by omega))))))
def nnW (c e:Int):Int:=if e=9 then c+1 else c
def whyS :List (Int×Bool)->Int->Int
 | [],c=>if 3<=c then 9 else 18
 | (e,g)::r,c=>if g=true then 17 else whyS r (nnW c e)
theorem nnW_in {c e b:Int}(h:0<=c/\c<=b):0<=nnW c e/\nnW c e<=b+1:=by unfold nnW;split <;> omega
theorem swhy {d0 d1 d2 d3 d4:List UInt8}{e0 e1 e2 e3 e4:Int}{k0 k1 k2 k3 k4:Bool}{w:World}:RV 113 #[.agg #[sv d0,i6 e0,.bool k0,sv d1,i6 e1,.bool k1,sv d2,i6 e2,.bool k2,sv d3,i6 e3,.bool k3,sv d4,i6 e4,.bool k4]] w (i6 (whyS [(e0,k0),(e1,k1),(e2,k2),(e3,k3),(e4,k4)] 0)):=by
 refine enter Tryz.func113 ?_
 have n1:=nnW_in (c:=0) (e:=e0) (b:=0) (by omega)
 have n2:=nnW_in (c:=(nnW (0:Int) e0)) (e:=e1) (b:=0+1) n1
 have n3:=nnW_in (c:=(nnW (nnW (0:Int) e0) e1)) (e:=e2) (b:=0+1+1) n2
 have n4:=nnW_in (c:=(nnW (nnW (nnW (0:Int) e0) e1) e2)) (e:=e3) (b:=0+1+1+1) n3
 have n5:=nnW_in (c:=(nnW (nnW (nnW (nnW (0:Int) e0) e1) e2) e3)) (e:=e4) (b:=0+1+1+1+1) n4
 refine rg (ba (fun g0=>?_))
 refine p1 .as ?_
 refine en (r1 .as (se (r2 .lw .mv (bl (lr 6 (kL [(1,pt g0),(2,i6 0),(3,i6 0),(6,.agg #[sv d0,i6 e0,.bool k0,sv d1,i6 e1,.bool k1,sv d2,i6 e2,.bool k2,sv d3,i6 e3,.bool k3,sv d4,i6 e4,.bool k4]),(7,i6 0)] (un (r1 .lss (se (ct (sk (nN (jp (whyS [(e0,k0),(e1,k1),(e2,k2),(e3,k3),(e4,k4)] (0:Int)=whyS [(e1,k1),(e2,k2),(e3,k3),(e4,k4)] (nnW (0:Int) e0)) [(1,pt g0),(2,i6 0),(3,i6 (nnW (0:Int) e0)),(6,.agg #[sv d0,i6 e0,.bool k0,sv d1,i6 e1,.bool k1,sv d2,i6 e2,.bool k2,sv d3,i6 e3,.bool k3,sv d4,i6 e4,.bool k4]),(7,i6 0)] [(g0,isB 208 #[sv d0,i6 e0,.bool k0,sv d1,i6 e1,.bool k1,sv d2,i6 e2,.bool k2,sv d3,i6 e3,.bool k3,sv d4,i6 e4,.bool k4])] [] ?_ (fun hw=>?_))))))))))))))
 ·skip
  refine bl (rg (pp (PR.xl 0 [sv d0,i6 e0,.bool k0]) (aa Tryz.zeroValue207 (fun g1=>sw 0 ?_))))
  refine en (se (r2 .fa .ld (cs (fun hg=>?_) (fun hg=>?_))))
  ·rw[show whyS [(e0,k0),(e1,k1),(e2,k2),(e3,k3),(e4,k4)] (0:Int)=17 from if_pos hg]
   exact r1 .as (rt (nR (bR (nR (nR (bR (nR q1)))))))
  ·skip
   refine sk (nN (r3 .fa .ld .eqi (sd (fun h9=>?_) (fun h9=>?_))))
   ·skip
    exact rg0 (p1 .mv (pp (PR.ad (nnW (0:Int) e0) (h:=by have e:(nnW (0:Int) e0)=(0:Int)+1:=if_pos h9;omega)) (p1 .as (en0 (bN (nN (jq (by simp[whyS,hg,nnW,h9]) su)))))))
   ·rw[show(nnW (0:Int) e0)=(0:Int) from if_neg h9]
    exact sk (bN (nN (jq (by simp[whyS,hg,nnW,h9]) su)))
 ·skip
  rw[hw]
  refine rg0 (pp (PR.ad 1) (p1 .mv (en0 (nN (kL [(1,pt g0),(2,i6 0),(3,i6 (nnW (0:Int) e0)),(6,.agg #[sv d0,i6 e0,.bool k0,sv d1,i6 e1,.bool k1,sv d2,i6 e2,.bool k2,sv d3,i6 e3,.bool k3,sv d4,i6 e4,.bool k4]),(7,i6 1)] (un (r1 .lss (se (ct (sk (nN (jp (whyS [(e1,k1),(e2,k2),(e3,k3),(e4,k4)] (nnW (0:Int) e0)=whyS [(e2,k2),(e3,k3),(e4,k4)] (nnW (nnW (0:Int) e0) e1)) [(1,pt g0),(2,i6 0),(3,i6 (nnW (nnW (0:Int) e0) e1)),(6,.agg #[sv d0,i6 e0,.bool k0,sv d1,i6 e1,.bool k1,sv d2,i6 e2,.bool k2,sv d3,i6 e3,.bool k3,sv d4,i6 e4,.bool k4]),(7,i6 1)] [(g0,isB 208 #[sv d0,i6 e0,.bool k0,sv d1,i6 e1,.bool k1,sv d2,i6 e2,.bool k2,sv d3,i6 e3,.bool k3,sv d4,i6 e4,.bool k4])] [] ?_ (fun hw=>?_)))))))))))))
  ·skip
   refine bl (rg (pp (PR.xl 1 [sv d1,i6 e1,.bool k1]) (aa Tryz.zeroValue207 (fun g1=>sw 0 ?_))))
   refine en (se (r2 .fa .ld (cs (fun hg=>?_) (fun hg=>?_))))
   ·rw[show whyS [(e1,k1),(e2,k2),(e3,k3),(e4,k4)] (nnW (0:Int) e0)=17 from if_pos hg]
    exact r1 .as (rt (nR (bR (nR (nR (bR (nR q1)))))))
   ·skip
    refine sk (nN (r3 .fa .ld .eqi (sd (fun h9=>?_) (fun h9=>?_))))
    ·skip
     exact rg0 (p1 .mv (pp (PR.ad (nnW (nnW (0:Int) e0) e1) (h:=by have e:(nnW (nnW (0:Int) e0) e1)=(nnW (0:Int) e0)+1:=if_pos h9;omega)) (p1 .as (en0 (bN (nN (jq (by simp[whyS,hg,nnW,h9]) su)))))))
    ·rw[show(nnW (nnW (0:Int) e0) e1)=(nnW (0:Int) e0) from if_neg h9]
     exact sk (bN (nN (jq (by simp[whyS,hg,nnW,h9]) su)))
  ·skip
   rw[hw]
   refine rg0 (pp (PR.ad 2) (p1 .mv (en0 (nN (kL [(1,pt g0),(2,i6 0),(3,i6 (nnW (nnW (0:Int) e0) e1)),(6,.agg #[sv d0,i6 e0,.bool k0,sv d1,i6 e1,.bool k1,sv d2,i6 e2,.bool k2,sv d3,i6 e3,.bool k3,sv d4,i6 e4,.bool k4]),(7,i6 2)] (un (r1 .lss (se (ct (sk (nN (jp (whyS [(e2,k2),(e3,k3),(e4,k4)] (nnW (nnW (0:Int) e0) e1)=whyS [(e3,k3),(e4,k4)] (nnW (nnW (nnW (0:Int) e0) e1) e2)) [(1,pt g0),(2,i6 0),(3,i6 (nnW (nnW (nnW (0:Int) e0) e1) e2)),(6,.agg #[sv d0,i6 e0,.bool k0,sv d1,i6 e1,.bool k1,sv d2,i6 e2,.bool k2,sv d3,i6 e3,.bool k3,sv d4,i6 e4,.bool k4]),(7,i6 2)] [(g0,isB 208 #[sv d0,i6 e0,.bool k0,sv d1,i6 e1,.bool k1,sv d2,i6 e2,.bool k2,sv d3,i6 e3,.bool k3,sv d4,i6 e4,.bool k4])] [] ?_ (fun hw=>?_)))))))))))))
   ·skip
    refine bl (rg (pp (PR.xl 2 [sv d2,i6 e2,.bool k2]) (aa Tryz.zeroValue207 (fun g1=>sw 0 ?_))))
    refine en (se (r2 .fa .ld (cs (fun hg=>?_) (fun hg=>?_))))
    ·rw[show whyS [(e2,k2),(e3,k3),(e4,k4)] (nnW (nnW (0:Int) e0) e1)=17 from if_pos hg]
     exact r1 .as (rt (nR (bR (nR (nR (bR (nR q1)))))))
    ·skip
     refine sk (nN (r3 .fa .ld .eqi (sd (fun h9=>?_) (fun h9=>?_))))
     ·skip
      exact rg0 (p1 .mv (pp (PR.ad (nnW (nnW (nnW (0:Int) e0) e1) e2) (h:=by have e:(nnW (nnW (nnW (0:Int) e0) e1) e2)=(nnW (nnW (0:Int) e0) e1)+1:=if_pos h9;omega)) (p1 .as (en0 (bN (nN (jq (by simp[whyS,hg,nnW,h9]) su)))))))
     ·rw[show(nnW (nnW (nnW (0:Int) e0) e1) e2)=(nnW (nnW (0:Int) e0) e1) from if_neg h9]
      exact sk (bN (nN (jq (by simp[whyS,hg,nnW,h9]) su)))
   ·skip
    rw[hw]
    refine rg0 (pp (PR.ad 3) (p1 .mv (en0 (nN (kL [(1,pt g0),(2,i6 0),(3,i6 (nnW (nnW (nnW (0:Int) e0) e1) e2)),(6,.agg #[sv d0,i6 e0,.bool k0,sv d1,i6 e1,.bool k1,sv d2,i6 e2,.bool k2,sv d3,i6 e3,.bool k3,sv d4,i6 e4,.bool k4]),(7,i6 3)] (un (r1 .lss (se (ct (sk (nN (jp (whyS [(e3,k3),(e4,k4)] (nnW (nnW (nnW (0:Int) e0) e1) e2)=whyS [(e4,k4)] (nnW (nnW (nnW (nnW (0:Int) e0) e1) e2) e3)) [(1,pt g0),(2,i6 0),(3,i6 (nnW (nnW (nnW (nnW (0:Int) e0) e1) e2) e3)),(6,.agg #[sv d0,i6 e0,.bool k0,sv d1,i6 e1,.bool k1,sv d2,i6 e2,.bool k2,sv d3,i6 e3,.bool k3,sv d4,i6 e4,.bool k4]),(7,i6 3)] [(g0,isB 208 #[sv d0,i6 e0,.bool k0,sv d1,i6 e1,.bool k1,sv d2,i6 e2,.bool k2,sv d3,i6 e3,.bool k3,sv d4,i6 e4,.bool k4])] [] ?_ (fun hw=>?_)))))))))))))
    ·skip
     refine bl (rg (pp (PR.xl 3 [sv d3,i6 e3,.bool k3]) (aa Tryz.zeroValue207 (fun g1=>sw 0 ?_))))
     refine en (se (r2 .fa .ld (cs (fun hg=>?_) (fun hg=>?_))))
     ·rw[show whyS [(e3,k3),(e4,k4)] (nnW (nnW (nnW (0:Int) e0) e1) e2)=17 from if_pos hg]
      exact r1 .as (rt (nR (bR (nR (nR (bR (nR q1)))))))
     ·skip
      refine sk (nN (r3 .fa .ld .eqi (sd (fun h9=>?_) (fun h9=>?_))))
      ·skip
       exact rg0 (p1 .mv (pp (PR.ad (nnW (nnW (nnW (nnW (0:Int) e0) e1) e2) e3) (h:=by have e:(nnW (nnW (nnW (nnW (0:Int) e0) e1) e2) e3)=(nnW (nnW (nnW (0:Int) e0) e1) e2)+1:=if_pos h9;omega)) (p1 .as (en0 (bN (nN (jq (by simp[whyS,hg,nnW,h9]) su)))))))
      ·rw[show(nnW (nnW (nnW (nnW (0:Int) e0) e1) e2) e3)=(nnW (nnW (nnW (0:Int) e0) e1) e2) from if_neg h9]
       exact sk (bN (nN (jq (by simp[whyS,hg,nnW,h9]) su)))
    ·skip
     rw[hw]
     refine rg0 (pp (PR.ad 4) (p1 .mv (en0 (nN (kL [(1,pt g0),(2,i6 0),(3,i6 (nnW (nnW (nnW (nnW (0:Int) e0) e1) e2) e3)),(6,.agg #[sv d0,i6 e0,.bool k0,sv d1,i6 e1,.bool k1,sv d2,i6 e2,.bool k2,sv d3,i6 e3,.bool k3,sv d4,i6 e4,.bool k4]),(7,i6 4)] (un (r1 .lss (se (ct (sk (nN (jp (whyS [(e4,k4)] (nnW (nnW (nnW (nnW (0:Int) e0) e1) e2) e3)=whyS [] (nnW (nnW (nnW (nnW (nnW (0:Int) e0) e1) e2) e3) e4)) [(1,pt g0),(2,i6 0),(3,i6 (nnW (nnW (nnW (nnW (nnW (0:Int) e0) e1) e2) e3) e4)),(6,.agg #[sv d0,i6 e0,.bool k0,sv d1,i6 e1,.bool k1,sv d2,i6 e2,.bool k2,sv d3,i6 e3,.bool k3,sv d4,i6 e4,.bool k4]),(7,i6 4)] [(g0,isB 208 #[sv d0,i6 e0,.bool k0,sv d1,i6 e1,.bool k1,sv d2,i6 e2,.bool k2,sv d3,i6 e3,.bool k3,sv d4,i6 e4,.bool k4])] [] ?_ (fun hw=>?_)))))))))))))
     ·skip
      refine bl (rg (pp (PR.xl 4 [sv d4,i6 e4,.bool k4]) (aa Tryz.zeroValue207 (fun g1=>sw 0 ?_))))
      refine en (se (r2 .fa .ld (cs (fun hg=>?_) (fun hg=>?_))))
      ·rw[show whyS [(e4,k4)] (nnW (nnW (nnW (nnW (0:Int) e0) e1) e2) e3)=17 from if_pos hg]
       exact r1 .as (rt (nR (bR (nR (nR (bR (nR q1)))))))
      ·skip
       refine sk (nN (r3 .fa .ld .eqi (sd (fun h9=>?_) (fun h9=>?_))))
       ·skip
        exact rg0 (p1 .mv (pp (PR.ad (nnW (nnW (nnW (nnW (nnW (0:Int) e0) e1) e2) e3) e4) (h:=by have e:(nnW (nnW (nnW (nnW (nnW (0:Int) e0) e1) e2) e3) e4)=(nnW (nnW (nnW (nnW (0:Int) e0) e1) e2) e3)+1:=if_pos h9;omega)) (p1 .as (en0 (bN (nN (jq (by simp[whyS,hg,nnW,h9]) su)))))))
       ·rw[show(nnW (nnW (nnW (nnW (nnW (0:Int) e0) e1) e2) e3) e4)=(nnW (nnW (nnW (nnW (0:Int) e0) e1) e2) e3) from if_neg h9]
        exact sk (bN (nN (jq (by simp[whyS,hg,nnW,h9]) su)))
     ·skip
      rw[hw]
      refine rg0 (pp (PR.ad 5) (p1 .mv (en0 (nN (kL [(1,pt g0),(2,i6 0),(3,i6 (nnW (nnW (nnW (nnW (nnW (0:Int) e0) e1) e2) e3) e4)),(6,.agg #[sv d0,i6 e0,.bool k0,sv d1,i6 e1,.bool k1,sv d2,i6 e2,.bool k2,sv d3,i6 e3,.bool k3,sv d4,i6 e4,.bool k4]),(7,i6 5)] (un (r1 .lss (se (cf (xt (nX (nX (bH (nN (se (r2 .mv .geq (sd (fun h3=>?_) (fun h3=>?_))))))))))))))))))
      ·rw[show whyS [] _=9 from if_pos h3]
       exact r1 .as (rt (nR q1))
      ·rw[show whyS [] _=18 from if_neg (by omega)]
       exact sk (nN (r1 .as (rt q1)))
end
end Go.Proofs.YtdjholkjkbihmaaGreatDoor
