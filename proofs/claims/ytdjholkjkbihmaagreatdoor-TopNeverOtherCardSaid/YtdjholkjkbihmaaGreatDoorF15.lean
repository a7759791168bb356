/- Laws and walks of TopNeverOther. -/
import Derived.Test.YtdjholkjkbihmaaGreatDoorF14
namespace Go.Proofs.YtdjholkjkbihmaaGreatDoor
open Go.RowKit
set_option maxRecDepth 100000
set_option maxHeartbeats 4000000

theorem fdistinct_any (l:List UInt8)(v:Value)(w:World)(hV:Sl w v 1 l.length (l.map cb))(_hl:l.length<2^40):Calls Tryz.prog 190 #[v] w fun e w'=>e = .returned (.bool (decide l.Nodup))/\Below w.heap.size w w':=by
 refine walk_enter Tryz.func190 rfl rfl rfl fun a0 F0=>?_
 have M0:=Mem.new w
 refine wsl ?_
 refine sr (v:=(.bool false)) F0 (run_as rfl rfl) rfl rfl rfl fun a1 F1=>?_
 refine sn ?_
 clear F0
 refine wsl ?_
 refine sqNew (cs:=(boolsF (fun _=>false))) (t:=367) F1 M0 (wantedS rfl) (run_alloc rfl (by kernel_rfl)) rfl (by decide) fun g0 a2 w1 hgg0 hb1 F2 M1=>?_
 refine sn ?_
 clear F1 M0
 refine wp_seq ?_
 refine wsl ?_
 refine mvS F2 rfl rfl rfl rfl rfl fun a3 F3=>?_
 refine sr F3 (run_lenS rfl (F3.ev 6 rfl) (hV.below M1.below) rfl Tryz.underlying75) rfl rfl rfl fun a4 F4=>?_
 refine sr (v:=(.int .i64 0)) F4 (run_mv rfl rfl) rfl rfl rfl fun a5 F5=>?_
 refine sn ?_
 clear F2 F3 F4
 refine wp_block ?_
 refine wkLoop (fun m a0 w2=>∃ i:Nat,i<=l.length/\m=l.length-i/\(l.take i).Nodup/\Fr a0 18 [(0,v),(3,.pointer (some ⟨g0,0,none⟩)),(6,v),(7,.int .i64 (l.length:Int)),(8,.int .i64 (i:Int))]/\Mem w [(g0,isB 367 (boolsF (metF l i)))] w2) l.length ⟨0,Nat.zero_le _,rfl,by simp,F5.sub ⟨rfl,rfl,rfl,rfl,rfl,trivial⟩,M1⟩ ?_
 rintro m a0 w1 ⟨i,hi,rfl,hnd,F0,M0⟩
 by_cases h1:i<l.length
 ·obtain⟨x,hx⟩:∃ x,l[i]?=some x:=⟨_,List.getElem?_eq_getElem h1⟩
  have hxl:=x.toNat_lt
  cases hm:metF l i x.toNat
  ·skip
   refine wsl ?_
   refine sr (v:=(.bool true)) F0 (run_lss rfl (F0.ev 8 rfl) (F0.ev 7 rfl) (decide_eq_true (by omega))) rfl rfl rfl fun a1 F1=>?_
   refine sn ?_
   clear F0
   refine wp_seq ?_
   refine cts (F1.ev 9 rfl) ?_
   refine wp_seq ?_
   refine wp_block ?_
   refine wsl ?_
   refine sr (v:=(slPtr v (i*1))) F1 (run_atP (i:=i) rfl (F1.ev 6 rfl) (F1.ev 8 rfl) rfl (hV.below M0.below) (by omega) elU8.un (by kernel_rfl)) rfl rfl rfl fun a2 F2=>?_
   refine sr (v:=(.int .u8 (x.toNat:Int))) F2 (run_ldP (u:=cb x) rfl (F2.ev 10 rfl) (hV.below M0.below) (map_atB hx) (by kernel_rfl)) rfl rfl rfl fun a3 F3=>?_
   refine asS F3 rfl rfl rfl rfl rfl fun a4 F4=>?_
   refine sn ?_
   clear F1 F2 F3
   refine wp_seq ?_
   refine wsl ?_
   refine mvS F4 rfl rfl rfl rfl rfl fun a5 F5=>?_
   refine sr (v:=(.pointer (some ⟨g0,x.toNat,none⟩))) F5 (run_idxA (i:=x.toNat) (cnt:=256) rfl (F5.ev 3 rfl) (F5.ev 12 rfl) rfl (by omega) Tryz.underlying367 (by kernel_rfl)) rfl rfl rfl fun a6 F6=>?_
   refine sr (v:=(.bool false)) F6 (run_ldF rfl (F6.ev 13 rfl) (M0.at 0 rfl) (boolsF_at (by omega) hm) (by kernel_rfl)) rfl rfl rfl fun a7 F7=>?_
   refine sn ?_
   clear F4 F5 F6
   refine cfs (F7.ev 14 rfl) ?_
   refine wp_region_lit ?_
   refine mvS F7 rfl rfl rfl rfl rfl fun a8 F8=>?_
   refine sr (v:=(.pointer (some ⟨g0,x.toNat,none⟩))) F8 (run_idxA (i:=x.toNat) (cnt:=256) rfl (F8.ev 3 rfl) (F8.ev 15 rfl) rfl (by omega) Tryz.underlying367 (by kernel_rfl)) rfl rfl rfl fun a9 F9=>?_
   refine sqSetBool (j:=0) (f:=metF l i) F9 M0 rfl rfl rfl (F9.ev 16 rfl) rfl rfl (by omega) fun a10 w2 hgr2 F10 M1=>?_
   refine sqEnd ?_
   clear F7 F8 F9 M0
   refine bkEnd ?_
   refine nx ?_
   refine wp_region_lit ?_
   refine sr F10 (run_add (r:=((i+1:Nat):Int)) rfl (F10.ev 8 rfl) rfl (by rw[IntKind.wrap_i64];omega)) rfl rfl rfl fun a11 F11=>?_
   refine mvS F11 rfl rfl rfl rfl rfl fun a12 F12=>?_
   refine sn ?_
   clear F10 F11
   exact⟨_,by omega,i+1,by omega,rfl,nodup_take_succ hx hnd hm,F12.sub ⟨rfl,rfl,rfl,rfl,rfl,trivial⟩,by rw[←metF_step hx];exact M1⟩
  ·have hres:decide l.Nodup=false:=decide_eq_false (not_nodup_at hx hm)
   refine wsl ?_
   refine sr (v:=(.bool true)) F0 (run_lss rfl (F0.ev 8 rfl) (F0.ev 7 rfl) (decide_eq_true (by omega))) rfl rfl rfl fun a1 F1=>?_
   refine sn ?_
   clear F0
   refine wp_seq ?_
   refine cts (F1.ev 9 rfl) ?_
   refine wp_seq ?_
   refine wp_block ?_
   refine wsl ?_
   refine sr (v:=(slPtr v (i*1))) F1 (run_atP (i:=i) rfl (F1.ev 6 rfl) (F1.ev 8 rfl) rfl (hV.below M0.below) (by omega) elU8.un (by kernel_rfl)) rfl rfl rfl fun a2 F2=>?_
   refine sr (v:=(.int .u8 (x.toNat:Int))) F2 (run_ldP (u:=cb x) rfl (F2.ev 10 rfl) (hV.below M0.below) (map_atB hx) (by kernel_rfl)) rfl rfl rfl fun a3 F3=>?_
   refine asS F3 rfl rfl rfl rfl rfl fun a4 F4=>?_
   refine sn ?_
   clear F1 F2 F3
   refine wp_seq ?_
   refine wsl ?_
   refine mvS F4 rfl rfl rfl rfl rfl fun a5 F5=>?_
   refine sr (v:=(.pointer (some ⟨g0,x.toNat,none⟩))) F5 (run_idxA (i:=x.toNat) (cnt:=256) rfl (F5.ev 3 rfl) (F5.ev 12 rfl) rfl (by omega) Tryz.underlying367 (by kernel_rfl)) rfl rfl rfl fun a6 F6=>?_
   refine sr (v:=(.bool true)) F6 (run_ldF rfl (F6.ev 13 rfl) (M0.at 0 rfl) (boolsF_at (by omega) hm) (by kernel_rfl)) rfl rfl rfl fun a7 F7=>?_
   refine sn ?_
   clear F4 F5 F6
   refine wp_cond_true (F7.ev 14 rfl) ?_
   refine wsl ?_
   refine sr (v:=(.bool false)) F7 (run_as rfl rfl) rfl rfl rfl fun a8 F8=>?_
   refine sn ?_
   clear F7
   refine wp_ret ?_
   refine nxRet ?_
   refine bkRet ?_
   refine nxRet ?_
   refine nxRet ?_
   refine bkRet ?_
   refine nxRet ?_
   exact ret1 F8 rfl rfl ⟨by rw[hres],M0.below⟩
 ·have hie:i=l.length:=by omega
  have hres:decide l.Nodup=true:=decide_eq_true (by rw[hie,List.take_length] at hnd;exact hnd)
  refine wsl ?_
  refine sr (v:=(.bool false)) F0 (run_lss rfl (F0.ev 8 rfl) (F0.ev 7 rfl) (decide_eq_false (by omega))) rfl rfl rfl fun a1 F1=>?_
  refine sn ?_
  clear F0
  refine wp_seq ?_
  refine wp_cond_false (F1.ev 9 rfl) ?_
  refine wp_exit ?_
  refine nxExit ?_
  refine nxExit ?_
  refine bkHere ?_
  refine nx ?_
  refine wsl ?_
  refine sr (v:=(.bool true)) F1 (run_as rfl rfl) rfl rfl rfl fun a2 F2=>?_
  refine sn ?_
  clear F1
  refine wp_ret ?_
  exact ret1 F2 rfl rfl ⟨by rw[hres],M0.below⟩
theorem fat_any (X Y:List UInt8)(vx vy:Value)(z:UInt8)(w:World)(hVx:Sl w vx 1 X.length (X.map cb))(hVy:Sl w vy 1 Y.length (Y.map cb))(hl:X.length=Y.length)(_hl:X.length<2^40):Calls Tryz.prog 131 #[vx,vy,.int .u8 (z.toNat:Int)] w fun e w'=>e = .returned (if X.Nodup then .tuple #[.int .u8 ((atT X Y z X.length).toNat:Int),.bool true] else .tuple #[.int .u8 0,.bool false])/\Below w.heap.size w w':=by
 by_cases hn:X.Nodup
 ·have hnd:decide X.Nodup=true:=decide_eq_true hn
  rw[if_pos hn]
  refine walk_enter Tryz.func131 rfl rfl rfl fun a0 F0=>?_
  have M0:=Mem.new w
  refine wsl ?_
  refine sr (v:=(.int .u8 0)) F0 (run_as rfl rfl) rfl rfl rfl fun a1 F1=>?_
  refine sr (v:=(.bool false)) F1 (run_as rfl rfl) rfl rfl rfl fun a2 F2=>?_
  refine sn ?_
  clear F0 F1
  refine wp_seq ?_
  refine wsl ?_
  refine mvS F2 rfl rfl rfl rfl rfl fun a3 F3=>?_
  refine sr F3 (run_lenS rfl (F3.ev 15 rfl) (hVx.below M0.below) rfl Tryz.underlying75) rfl rfl rfl fun a4 F4=>?_
  refine mvS F4 rfl rfl rfl rfl rfl fun a5 F5=>?_
  refine sr F5 (run_lenS rfl (F5.ev 17 rfl) (hVy.below M0.below) rfl Tryz.underlying75) rfl rfl rfl fun a6 F6=>?_
  refine sr (v:=(.bool false)) F6 (run_nei rfl (F6.ev 16 rfl) (F6.ev 18 rfl) (bne_eq_false_iff_eq.2 (by omega))) rfl rfl rfl fun a7 F7=>?_
  refine mvS F7 rfl rfl rfl rfl rfl fun a8 F8=>?_
  refine sq (v:=vx) F8 (wantedG F8 rfl rfl rfl rfl rfl) (run_mv rfl (F8.ev 0 rfl)) rfl (by decide) fun a9 F9=>?_
  refine sqC (v:=(.bool true)) F9 M0 (wantedG F9 rfl rfl rfl rfl rfl) (run_call rfl Tryz.func190 (by kernel_rfl) rfl (mapE1 (F9.ev 21 rfl))) rfl (by decide) ((by have h:=fdistinct_any X vx w (hVx.below M0.below) (by omega);rw[hnd] at h;exact h)) fun a10 w1 hb1 F10 M1=>?_
  refine sq (v:=(.bool false)) F10 (wantedG F10 rfl rfl rfl rfl rfl) (run_not rfl (F10.ev 22 rfl)) rfl (by decide) fun a11 F11=>?_
  refine sr (v:=(.bool false)) F11 (run_pick rfl (F11.ev 20 rfl) rfl (F11.ev 23 rfl)) rfl rfl rfl fun a12 F12=>?_
  refine sn ?_
  clear F2 F3 F4 F5 F6 F7 F8 F9 F10 F11 M0
  refine cfs (F12.ev 24 rfl) ?_
  refine wsl ?_
  refine sr (v:=(.int .u8 0)) F12 (run_as rfl rfl) rfl rfl rfl fun a13 F13=>?_
  refine sn ?_
  clear F12
  refine wp_seq ?_
  refine wsl ?_
  refine mvS F13 rfl rfl rfl rfl rfl fun a14 F14=>?_
  refine sr F14 (run_lenS rfl (F14.ev 25 rfl) (hVx.below M1.below) rfl Tryz.underlying75) rfl rfl rfl fun a15 F15=>?_
  refine sr (v:=(.int .i64 0)) F15 (run_mv rfl rfl) rfl rfl rfl fun a16 F16=>?_
  refine sn ?_
  clear F13 F14 F15
  refine wp_block ?_
  refine wkLoop (fun m a0 w2=>∃ i:Nat,i<=X.length/\m=X.length-i/\Fr a0 65 [(0,vx),(1,vy),(2,.int .u8 (z.toNat:Int)),(8,.int .u8 ((atT X Y z i).toNat:Int)),(25,vx),(26,.int .i64 (X.length:Int)),(27,.int .i64 (i:Int))]/\Mem w [] w2) X.length ⟨0,Nat.zero_le _,rfl,F16.sub ⟨rfl,rfl,rfl,rfl,rfl,rfl,rfl,trivial⟩,M1⟩ ?_
  rintro m a0 w1 ⟨i,hi,rfl,F0,M0⟩
  have hst:atT X Y z (i+1)=atT X Y z i^^^mulS (aboT X z (Y.getD i 0) i X.length) (invS (belT X i X.length)):=rfl
  obtain⟨Q,hQ⟩:∃ Q,atT X Y z i=Q:=⟨_,rfl⟩
  rw[hQ] at F0 hst
  by_cases h1:i<X.length
  ·obtain⟨x,hx⟩:∃ x,X[i]?=some x:=⟨_,List.getElem?_eq_getElem h1⟩
   obtain⟨y,hy⟩:∃ y,Y[i]?=some y:=⟨_,List.getElem?_eq_getElem (by omega)⟩
   have hyD:Y.getD i 0=y:=by rw[List.getD_eq_getElem?_getD,hy];rfl
   rw[hyD] at hst
   refine wsl ?_
   refine sr (v:=(.bool true)) F0 (run_lss rfl (F0.ev 27 rfl) (F0.ev 26 rfl) (decide_eq_true (by omega))) rfl rfl rfl fun a1 F1=>?_
   refine sn ?_
   clear F0
   refine wp_seq ?_
   refine cts (F1.ev 28 rfl) ?_
   refine wp_seq ?_
   refine wp_block ?_
   refine wsl ?_
   refine mvS F1 rfl rfl rfl rfl rfl fun a2 F2=>?_
   refine sr (v:=(slPtr vx (i*1))) F2 (run_atP (i:=i) rfl (F2.ev 25 rfl) (F2.ev 27 rfl) rfl (hVx.below M0.below) (by omega) elU8.un (by kernel_rfl)) rfl rfl rfl fun a3 F3=>?_
   refine sr (v:=(.int .u8 (x.toNat:Int))) F3 (run_ldP (u:=cb x) rfl (F3.ev 30 rfl) (hVx.below M0.below) (map_atB hx) (by kernel_rfl)) rfl rfl rfl fun a4 F4=>?_
   refine asS F4 rfl rfl rfl rfl rfl fun a5 F5=>?_
   refine asS F5 rfl rfl rfl rfl rfl fun a6 F6=>?_
   refine sn ?_
   clear F1 F2 F3 F4 F5
   refine wsl ?_
   refine mvS F6 rfl rfl rfl rfl rfl fun a7 F7=>?_
   refine mvS F7 rfl rfl rfl rfl rfl fun a8 F8=>?_
   refine sr (v:=(slPtr vy (i*1))) F8 (run_atP (i:=i) rfl (F8.ev 32 rfl) (F8.ev 33 rfl) rfl (hVy.below M0.below) (by omega) elU8.un (by kernel_rfl)) rfl rfl rfl fun a9 F9=>?_
   refine sr (v:=(.int .u8 (y.toNat:Int))) F9 (run_ldP (u:=cb y) rfl (F9.ev 34 rfl) (hVy.below M0.below) (map_atB hy) (by kernel_rfl)) rfl rfl rfl fun a10 F10=>?_
   refine asS F10 rfl rfl rfl rfl rfl fun a11 F11=>?_
   refine sr (v:=(.int .u8 1)) F11 (run_as rfl rfl) rfl rfl rfl fun a12 F12=>?_
   refine sn ?_
   clear F6 F7 F8 F9 F10 F11
   refine wp_seq ?_
   refine wsl ?_
   refine mvS F12 rfl rfl rfl rfl rfl fun a13 F13=>?_
   refine sr F13 (run_lenS rfl (F13.ev 36 rfl) (hVx.below M0.below) rfl Tryz.underlying75) rfl rfl rfl fun a14 F14=>?_
   refine sr (v:=(.int .i64 0)) F14 (run_mv rfl rfl) rfl rfl rfl fun a15 F15=>?_
   refine sn ?_
   clear F12 F13 F14
   refine wp_block ?_
   refine wkLoop (fun m a0 w2=>∃ j:Nat,j<=X.length/\m=X.length-j/\Fr a0 65 [(0,vx),(1,vy),(2,.int .u8 (z.toNat:Int)),(8,.int .u8 (Q.toNat:Int)),(25,vx),(26,.int .i64 (X.length:Int)),(27,.int .i64 (i:Int)),(9,.int .i64 (i:Int)),(10,.int .u8 (x.toNat:Int)),(11,.int .u8 ((aboT X z y i j).toNat:Int)),(12,.int .u8 ((belT X i j).toNat:Int)),(36,vx),(37,.int .i64 (X.length:Int)),(38,.int .i64 (j:Int))]/\Mem w [] w2) X.length ⟨0,Nat.zero_le _,rfl,F15.sub ⟨rfl,rfl,rfl,rfl,rfl,rfl,rfl,rfl,rfl,rfl,rfl,rfl,rfl,rfl,trivial⟩,M0⟩ ?_
   rintro m a0 w1 ⟨j,hj,rfl,F0,M0⟩
   have sa:aboT X z y i (j+1)=if j=i then aboT X z y i j else mulS (aboT X z y i j) (z^^^X.getD j 0):=rfl
   have sb:belT X i (j+1)=if j=i then belT X i j else mulS (belT X i j) (X.getD i 0^^^X.getD j 0):=rfl
   obtain⟨A,hA⟩:∃ A,aboT X z y i j=A:=⟨_,rfl⟩
   obtain⟨B,hB⟩:∃ B,belT X i j=B:=⟨_,rfl⟩
   rw[hA,hB] at F0
   rw[hA] at sa
   rw[hB] at sb
   by_cases h2:j<X.length
   ·obtain⟨q,hq⟩:∃ q,X[j]?=some q:=⟨_,List.getElem?_eq_getElem h2⟩
    have hqD:X.getD j 0=q:=by rw[List.getD_eq_getElem?_getD,hq];rfl
    have hxD:X.getD i 0=x:=by rw[List.getD_eq_getElem?_getD,hx];rfl
    rw[hqD] at sa sb
    rw[hxD] at sb
    by_cases h3:j=i
    ·rw[if_pos h3] at sa sb
     refine wsl ?_
     refine sr (v:=(.bool true)) F0 (run_lss rfl (F0.ev 38 rfl) (F0.ev 37 rfl) (decide_eq_true (by omega))) rfl rfl rfl fun a1 F1=>?_
     refine sn ?_
     clear F0
     refine wp_seq ?_
     refine cts (F1.ev 39 rfl) ?_
     refine wp_seq ?_
     refine wp_block ?_
     refine wsl ?_
     refine mvS F1 rfl rfl rfl rfl rfl fun a2 F2=>?_
     refine sr (v:=(slPtr vx (j*1))) F2 (run_atP (i:=j) rfl (F2.ev 36 rfl) (F2.ev 38 rfl) rfl (hVx.below M0.below) (by omega) elU8.un (by kernel_rfl)) rfl rfl rfl fun a3 F3=>?_
     refine sr (v:=(.int .u8 (q.toNat:Int))) F3 (run_ldP (u:=cb q) rfl (F3.ev 41 rfl) (hVx.below M0.below) (map_atB hq) (by kernel_rfl)) rfl rfl rfl fun a4 F4=>?_
     refine asS F4 rfl rfl rfl rfl rfl fun a5 F5=>?_
     refine asS F5 rfl rfl rfl rfl rfl fun a6 F6=>?_
     refine sn ?_
     clear F1 F2 F3 F4 F5
     refine wsl ?_
     refine mvS F6 rfl rfl rfl rfl rfl fun a7 F7=>?_
     refine mvS F7 rfl rfl rfl rfl rfl fun a8 F8=>?_
     refine sr (v:=(.bool false)) F8 (run_nei rfl (F8.ev 43 rfl) (F8.ev 44 rfl) (bne_eq_false_iff_eq.2 (by omega))) rfl rfl rfl fun a9 F9=>?_
     refine sn ?_
     clear F6 F7 F8
     refine wp_cond_false (F9.ev 45 rfl) ?_
     refine wp_skip ?_
     refine bkEnd ?_
     refine nx ?_
     refine wp_region_lit ?_
     refine sr F9 (run_add (r:=((j+1:Nat):Int)) rfl (F9.ev 38 rfl) rfl (by rw[IntKind.wrap_i64];omega)) rfl rfl rfl fun a10 F10=>?_
     refine mvS F10 rfl rfl rfl rfl rfl fun a11 F11=>?_
     refine sn ?_
     clear F9 F10
     exact⟨_,by omega,j+1,by omega,rfl,by rw[sa,sb];exact F11.sub ⟨rfl,rfl,rfl,rfl,rfl,rfl,rfl,rfl,rfl,rfl,rfl,rfl,rfl,rfl,trivial⟩,M0⟩
    ·rw[if_neg h3] at sa sb
     refine wsl ?_
     refine sr (v:=(.bool true)) F0 (run_lss rfl (F0.ev 38 rfl) (F0.ev 37 rfl) (decide_eq_true (by omega))) rfl rfl rfl fun a1 F1=>?_
     refine sn ?_
     clear F0
     refine wp_seq ?_
     refine cts (F1.ev 39 rfl) ?_
     refine wp_seq ?_
     refine wp_block ?_
     refine wsl ?_
     refine mvS F1 rfl rfl rfl rfl rfl fun a2 F2=>?_
     refine sr (v:=(slPtr vx (j*1))) F2 (run_atP (i:=j) rfl (F2.ev 36 rfl) (F2.ev 38 rfl) rfl (hVx.below M0.below) (by omega) elU8.un (by kernel_rfl)) rfl rfl rfl fun a3 F3=>?_
     refine sr (v:=(.int .u8 (q.toNat:Int))) F3 (run_ldP (u:=cb q) rfl (F3.ev 41 rfl) (hVx.below M0.below) (map_atB hq) (by kernel_rfl)) rfl rfl rfl fun a4 F4=>?_
     refine asS F4 rfl rfl rfl rfl rfl fun a5 F5=>?_
     refine asS F5 rfl rfl rfl rfl rfl fun a6 F6=>?_
     refine sn ?_
     clear F1 F2 F3 F4 F5
     refine wsl ?_
     refine mvS F6 rfl rfl rfl rfl rfl fun a7 F7=>?_
     refine mvS F7 rfl rfl rfl rfl rfl fun a8 F8=>?_
     refine sr (v:=(.bool true)) F8 (run_nei rfl (F8.ev 43 rfl) (F8.ev 44 rfl) (bne_iff_ne.2 (by omega))) rfl rfl rfl fun a9 F9=>?_
     refine sn ?_
     clear F6 F7 F8
     refine wp_cond_true (F9.ev 45 rfl) ?_
     refine wsl ?_
     refine mvS F9 rfl rfl rfl rfl rfl fun a10 F10=>?_
     refine mvS F10 rfl rfl rfl rfl rfl fun a11 F11=>?_
     refine mvS F11 rfl rfl rfl rfl rfl fun a12 F12=>?_
     refine sr (v:=(.int .u8 ((z^^^q).toNat:Int))) F12 (run_xor8 rfl (F12.ev 47 rfl) (F12.ev 48 rfl)) rfl rfl rfl fun a13 F13=>?_
     refine sqC (v:=(.int .u8 ((mulS A (z^^^q)).toNat:Int))) F13 M0 (wantedS rfl) (run_call rfl Tryz.func191 (by kernel_rfl) rfl (mapE2 (F13.ev 46 rfl) (F13.ev 49 rfl))) rfl (by decide) (fmul_any A (z^^^q) w1) fun a14 w2 hb2 F14 M1=>?_
     refine asS F14 rfl rfl rfl rfl rfl fun a15 F15=>?_
     refine sn ?_
     clear F9 F10 F11 F12 F13 F14 M0
     refine wp_region_lit ?_
     refine mvS F15 rfl rfl rfl rfl rfl fun a16 F16=>?_
     refine mvS F16 rfl rfl rfl rfl rfl fun a17 F17=>?_
     refine mvS F17 rfl rfl rfl rfl rfl fun a18 F18=>?_
     refine sr (v:=(.int .u8 ((x^^^q).toNat:Int))) F18 (run_xor8 rfl (F18.ev 52 rfl) (F18.ev 53 rfl)) rfl rfl rfl fun a19 F19=>?_
     refine sqC (v:=(.int .u8 ((mulS B (x^^^q)).toNat:Int))) F19 M1 (wantedS rfl) (run_call rfl Tryz.func191 (by kernel_rfl) rfl (mapE2 (F19.ev 51 rfl) (F19.ev 54 rfl))) rfl (by decide) (fmul_any B (x^^^q) w2) fun a20 w3 hb3 F20 M2=>?_
     refine asS F20 rfl rfl rfl rfl rfl fun a21 F21=>?_
     refine sqEnd ?_
     clear F15 F16 F17 F18 F19 F20 M1
     refine bkEnd ?_
     refine nx ?_
     refine wp_region_lit ?_
     refine sr F21 (run_add (r:=((j+1:Nat):Int)) rfl (F21.ev 38 rfl) rfl (by rw[IntKind.wrap_i64];omega)) rfl rfl rfl fun a22 F22=>?_
     refine mvS F22 rfl rfl rfl rfl rfl fun a23 F23=>?_
     refine sn ?_
     clear F21 F22
     exact⟨_,by omega,j+1,by omega,rfl,by rw[sa,sb];exact F23.sub ⟨rfl,rfl,rfl,rfl,rfl,rfl,rfl,rfl,rfl,rfl,rfl,rfl,rfl,rfl,trivial⟩,M2⟩
   ·have hje:j=X.length:=by omega
    have hAA:aboT X z y i X.length=A:=by rw[←hA,hje]
    have hBB:belT X i X.length=B:=by rw[←hB,hje]
    rw[hAA,hBB] at hst
    refine wsl ?_
    refine sr (v:=(.bool false)) F0 (run_lss rfl (F0.ev 38 rfl) (F0.ev 37 rfl) (decide_eq_false (by omega))) rfl rfl rfl fun a1 F1=>?_
    refine sn ?_
    clear F0
    refine wp_seq ?_
    refine wp_cond_false (F1.ev 39 rfl) ?_
    refine wp_exit ?_
    refine nxExit ?_
    refine nxExit ?_
    refine bkHere ?_
    refine nx ?_
    refine wp_region_lit ?_
    refine mvS F1 rfl rfl rfl rfl rfl fun a2 F2=>?_
    refine mvS F2 rfl rfl rfl rfl rfl fun a3 F3=>?_
    refine mvS F3 rfl rfl rfl rfl rfl fun a4 F4=>?_
    refine sqC (v:=(.int .u8 ((invS B).toNat:Int))) F4 M0 (wantedS rfl) (run_call rfl Tryz.func192 (by kernel_rfl) rfl (mapE1 (F4.ev 59 rfl))) rfl (by decide) (finv_any B w1) fun a5 w2 hb2 F5 M1=>?_
    refine sqC (v:=(.int .u8 ((mulS A (invS B)).toNat:Int))) F5 M1 (wantedS rfl) (run_call rfl Tryz.func191 (by kernel_rfl) rfl (mapE2 (F5.ev 58 rfl) (F5.ev 60 rfl))) rfl (by decide) (fmul_any A (invS B) w2) fun a6 w3 hb3 F6 M2=>?_
    refine sr (v:=(.int .u8 ((Q^^^(mulS A (invS B))).toNat:Int))) F6 (run_xor8 rfl (F6.ev 57 rfl) (F6.ev 61 rfl)) rfl rfl rfl fun a7 F7=>?_
    refine asS F7 rfl rfl rfl rfl rfl fun a8 F8=>?_
    refine sqEnd ?_
    clear F1 F2 F3 F4 F5 F6 F7 M0 M1
    refine bkEnd ?_
    refine nx ?_
    refine wp_region_lit ?_
    refine sr F8 (run_add (r:=((i+1:Nat):Int)) rfl (F8.ev 27 rfl) rfl (by rw[IntKind.wrap_i64];omega)) rfl rfl rfl fun a9 F9=>?_
    refine mvS F9 rfl rfl rfl rfl rfl fun a10 F10=>?_
    refine sn ?_
    clear F8 F9
    exact⟨_,by omega,i+1,by omega,rfl,by rw[hst];exact F10.sub ⟨rfl,rfl,rfl,rfl,rfl,rfl,rfl,trivial⟩,M2⟩
  ·have hie:i=X.length:=by omega
   have hres:atT X Y z X.length=Q:=by rw[←hQ,hie]
   refine wsl ?_
   refine sr (v:=(.bool false)) F0 (run_lss rfl (F0.ev 27 rfl) (F0.ev 26 rfl) (decide_eq_false (by omega))) rfl rfl rfl fun a1 F1=>?_
   refine sn ?_
   clear F0
   refine wp_seq ?_
   refine wp_cond_false (F1.ev 28 rfl) ?_
   refine wp_exit ?_
   refine nxExit ?_
   refine nxExit ?_
   refine bkHere ?_
   refine nx ?_
   refine wsl ?_
   refine mvS F1 rfl rfl rfl rfl rfl fun a2 F2=>?_
   refine asS F2 rfl rfl rfl rfl rfl fun a3 F3=>?_
   refine sr (v:=(.bool true)) F3 (run_as rfl rfl) rfl rfl rfl fun a4 F4=>?_
   refine sn ?_
   clear F1 F2 F3
   refine wp_ret ?_
   exact ret2 F4 rfl rfl rfl ⟨by rw[hres],M0.below⟩
 ·have hnd:decide X.Nodup=false:=decide_eq_false hn
  rw[if_neg hn]
  refine walk_enter Tryz.func131 rfl rfl rfl fun a0 F0=>?_
  have M0:=Mem.new w
  refine wsl ?_
  refine sr (v:=(.int .u8 0)) F0 (run_as rfl rfl) rfl rfl rfl fun a1 F1=>?_
  refine sr (v:=(.bool false)) F1 (run_as rfl rfl) rfl rfl rfl fun a2 F2=>?_
  refine sn ?_
  clear F0 F1
  refine wp_seq ?_
  refine wsl ?_
  refine mvS F2 rfl rfl rfl rfl rfl fun a3 F3=>?_
  refine sr F3 (run_lenS rfl (F3.ev 15 rfl) (hVx.below M0.below) rfl Tryz.underlying75) rfl rfl rfl fun a4 F4=>?_
  refine mvS F4 rfl rfl rfl rfl rfl fun a5 F5=>?_
  refine sr F5 (run_lenS rfl (F5.ev 17 rfl) (hVy.below M0.below) rfl Tryz.underlying75) rfl rfl rfl fun a6 F6=>?_
  refine sr (v:=(.bool false)) F6 (run_nei rfl (F6.ev 16 rfl) (F6.ev 18 rfl) (bne_eq_false_iff_eq.2 (by omega))) rfl rfl rfl fun a7 F7=>?_
  refine mvS F7 rfl rfl rfl rfl rfl fun a8 F8=>?_
  refine sq (v:=vx) F8 (wantedG F8 rfl rfl rfl rfl rfl) (run_mv rfl (F8.ev 0 rfl)) rfl (by decide) fun a9 F9=>?_
  refine sqC (v:=(.bool false)) F9 M0 (wantedG F9 rfl rfl rfl rfl rfl) (run_call rfl Tryz.func190 (by kernel_rfl) rfl (mapE1 (F9.ev 21 rfl))) rfl (by decide) ((by have h:=fdistinct_any X vx w (hVx.below M0.below) (by omega);rw[hnd] at h;exact h)) fun a10 w1 hb1 F10 M1=>?_
  refine sq (v:=(.bool true)) F10 (wantedG F10 rfl rfl rfl rfl rfl) (run_not rfl (F10.ev 22 rfl)) rfl (by decide) fun a11 F11=>?_
  refine sr (v:=(.bool true)) F11 (run_pick rfl (F11.ev 20 rfl) rfl (F11.ev 23 rfl)) rfl rfl rfl fun a12 F12=>?_
  refine sn ?_
  clear F2 F3 F4 F5 F6 F7 F8 F9 F10 F11 M0
  refine wp_cond_true (F12.ev 24 rfl) ?_
  refine wsl ?_
  refine sr (v:=(.int .u8 0)) F12 (run_as rfl rfl) rfl rfl rfl fun a13 F13=>?_
  refine sr (v:=(.bool false)) F13 (run_as rfl rfl) rfl rfl rfl fun a14 F14=>?_
  refine sn ?_
  clear F12 F13
  refine wp_ret ?_
  refine nxRet ?_
  exact ret2 F14 rfl rfl rfl ⟨rfl,M1.below⟩
def pxS (W0 W1 W2:UInt8)(f0 f1 f2:List UInt8)(i:Nat):UInt8:=0^^^mulS W0 (bt f0 i)^^^mulS W1 (bt f1 i)^^^mulS W2 (bt f2 i)
def unit3 (j:Nat):List UInt8:=[if j=0 then 1 else 0,if j=1 then 1 else 0,if j=2 then 1 else 0]
def wtS (x0 x1 x2 z:UInt8)(j:Nat):UInt8:=atT [x0,x1,x2] (unit3 j) z 3
def lineW (W0 W1 W2:UInt8)(f0 f1 f2:List UInt8):List UInt8:=(List.range f0.length).map (pxS W0 W1 W2 f0 f1 f2)
def lineS (x0 x1 x2:UInt8)(f0 f1 f2:List UInt8)(z:UInt8):List UInt8:=lineW (wtS x0 x1 x2 z 0) (wtS x0 x1 x2 z 1) (wtS x0 x1 x2 z 2) f0 f1 f2
theorem lineW_len (W0 W1 W2:UInt8)(f0 f1 f2:List UInt8):(lineW W0 W1 W2 f0 f1 f2).length=f0.length:=by simp[lineW]
theorem lineS_len (x0 x1 x2:UInt8)(f0 f1 f2:List UInt8)(z:UInt8):(lineS x0 x1 x2 f0 f1 f2 z).length=f0.length:=lineW_len _ _ _ _ _ _
def lnI (l:List UInt8)(i:Nat):List UInt8:=l.take i++List.replicate (l.length-i) 0
theorem lnI_len {l:List UInt8}{i:Nat}(h:i<=l.length):(lnI l i).length=l.length:=by simp[lnI];omega
theorem lnI_zero (l:List UInt8):lnI l 0=List.replicate l.length 0:=by simp[lnI]
theorem lnI_all (l:List UInt8):lnI l l.length=l:=by simp[lnI]
theorem lnI_at {l:List UInt8}{i:Nat}(h:i<l.length):bt (lnI l i) i=0:=by
 unfold bt lnI
 rw[List.getD_eq_getElem?_getD,List.getElem?_append_right (by simp;omega)]
 simp[Nat.min_eq_left (Nat.le_of_lt h),List.getElem?_replicate,show 0<l.length-i by omega]
theorem lnI_set {l:List UInt8}{i:Nat}(h:i<l.length):(lnI l i).set i (bt l i)=lnI l (i+1):=by
 unfold lnI
 rw[List.set_append_right _ _ (by simp;omega),List.take_add_one,List.length_take,Nat.min_eq_left (by omega),Nat.sub_self,show l.length-i=(l.length-(i+1))+1 by omega,List.replicate_succ,List.set_cons_zero]
 have:l[i]?.toList = [bt l i]:=by simp[bt,h]
 rw[this];simp
theorem bt_setS {l:List UInt8}{i:Nat}{x:UInt8}(h:i<l.length):bt (l.set i x) i=x:=by simp[bt,h]
theorem bt_line {W0 W1 W2:UInt8}{f0 f1 f2:List UInt8}{i:Nat}(h:i<f0.length):bt (lineW W0 W1 W2 f0 f1 f2) i=pxS W0 W1 W2 f0 f1 f2 i:=by simp[bt,lineW,h]
theorem fatV {x0 x1 x2 z:UInt8}(j:Nat){vx vy:Value}{w:World}(hX:[x0,x1,x2].Nodup)(h1:Sl w vx 1 3 [cb x0,cb x1,cb x2])(h2:Sl w vy 1 3 ((unit3 j).map cb)):RV 131 #[vx,vy,.int .u8 (z.toNat:Int)] w (.tuple #[.int .u8 ((wtS x0 x1 x2 z j).toNat:Int),.bool true]):=by
 have h:=fat_any [x0,x1,x2] (unit3 j) vx vy z w h1 h2 rfl (by show 3<2^40;decide)
 rw[if_pos hX] at h
 exact h
theorem pline {x0 x1 x2 z:UInt8}{f0 f1 f2:List UInt8}{w:World}(hX:[x0,x1,x2].Nodup)(h1:f1.length=f0.length)(h2:f2.length=f0.length)(hn:f0.length<=35184372088832):RV 222 #[.agg #[cb x0,cb x1,cb x2],.agg #[sv f0,sv f1,sv f2],.int .u8 (z.toNat:Int)] w (sv (lineS x0 x1 x2 f0 f1 f2 z)):=by
 refine enter Tryz.func222 ?_
 have hA0:∀ w2 vx vy,Sl w2 vx 1 3 [cb x0,cb x1,cb x2]->Sl w2 vy 1 3 [cb 1,cb 0,cb 0]->RV 131 #[vx,vy,.int .u8 (z.toNat:Int)] w2 (.tuple #[.int .u8 ((wtS x0 x1 x2 z 0).toNat:Int),.bool true]):=fun _ _ _ h1 h2=>fatV 0 hX h1 h2
 have hA1:∀ w2 vx vy,Sl w2 vx 1 3 [cb x0,cb x1,cb x2]->Sl w2 vy 1 3 [cb 0,cb 1,cb 0]->RV 131 #[vx,vy,.int .u8 (z.toNat:Int)] w2 (.tuple #[.int .u8 ((wtS x0 x1 x2 z 1).toNat:Int),.bool true]):=fun _ _ _ h1 h2=>fatV 1 hX h1 h2
 have hA2:∀ w2 vx vy,Sl w2 vx 1 3 [cb x0,cb x1,cb x2]->Sl w2 vy 1 3 [cb 0,cb 0,cb 1]->RV 131 #[vx,vy,.int .u8 (z.toNat:Int)] w2 (.tuple #[.int .u8 ((wtS x0 x1 x2 z 2).toNat:Int),.bool true]):=fun _ _ _ h1 h2=>fatV 2 hX h1 h2
 unfold lineS
 generalize wtS x0 x1 x2 z 0=W0 at *
 generalize wtS x0 x1 x2 z 1=W1 at *
 generalize wtS x0 x1 x2 z 2=W2 at *
 refine rg (ba (fun g0=>?_))
 refine ba (fun g1=>?_)
 refine p1 .as (en (rg (aa Tryz.zeroValue238 (fun g2=>en (se (r1 .mv (bl (lr 4 (kL [(2,.int .u8 (z.toNat:Int)),(3,pt g0),(4,pt g1),(7,pt g2),(14,i6 0)] (un (r1 .lss ?_)))))))))))
 refine se (ct (sk (nN (se (bl (r2 .mv .as (rg (aa Tryz.zeroValue238 (fun g3=>en (rg (p1 .mv (pp (PR.ia 0) (s1 0 (cs:=#[.int .u8 1,.int .u8 0,.int .u8 0]) ?_)))))))))))))
 refine en (dr0 [_,_,_,_,_,_,_,_,_,.any] [] [⟨9,_,_,_,0,.val (.int .u8 ((W0).toNat:Int))⟩] [1] [] ⟨rfl,trivial⟩ (fun Bs=>⟨kv (oP (PR.mv ez)),kv (oP (PR.sA)),kv (oP (PR.sA)),kv (oP (PR.mv ez)),kv (oC (fun _ _ h=>hA0 _ _ _ (blkSl (mk' 3 rfl rfl _ _ h) rfl) (blkSl (mk' 0 rfl rfl _ _ h) rfl))),kv (oP (PR.mv ed)),kv (oP (PR.ext ed)),kv (oP (PR.ext ed)),kv (oP (PR.ia 0 ez ed)),ks 0,trivial⟩) ?_)
 refine kM 1 #[.int .u8 ((W0).toNat:Int),.int .u8 0,.int .u8 0] ?_
 refine bN (nN (rg0 (pp (PR.ad 1) (p1 .mv (en0 (nN (kL [(2,.int .u8 (z.toNat:Int)),(3,pt g0),(4,pt g1),(7,pt g2),(14,i6 1)] (un (r1 .lss ?_)))))))))
 refine se (ct (sk (nN (se (bl (r2 .mv .as (rg (aa Tryz.zeroValue238 (fun g4=>en (rg (p1 .mv (pp (PR.ia 1) (s1 0 (cs:=#[.int .u8 0,.int .u8 1,.int .u8 0]) ?_)))))))))))))
 refine en (dr0 [_,_,_,_,_,_,_,_,_,.any] [] [⟨9,_,_,_,1,.val (.int .u8 ((W1).toNat:Int))⟩] [2] [] ⟨rfl,trivial⟩ (fun Bs=>⟨kv (oP (PR.mv ez)),kv (oP (PR.sA)),kv (oP (PR.sA)),kv (oP (PR.mv ez)),kv (oC (fun _ _ h=>hA1 _ _ _ (blkSl (mk' 4 rfl rfl _ _ h) rfl) (blkSl (mk' 0 rfl rfl _ _ h) rfl))),kv (oP (PR.mv ed)),kv (oP (PR.ext ed)),kv (oP (PR.ext ed)),kv (oP (PR.ia 1 ez ed)),ks 0,trivial⟩) ?_)
 refine kM 2 #[.int .u8 ((W0).toNat:Int),.int .u8 ((W1).toNat:Int),.int .u8 0] ?_
 refine bN (nN (rg0 (pp (PR.ad 2) (p1 .mv (en0 (nN (kL [(2,.int .u8 (z.toNat:Int)),(3,pt g0),(4,pt g1),(7,pt g2),(14,i6 2)] (un (r1 .lss ?_)))))))))
 refine se (ct (sk (nN (se (bl (r2 .mv .as (rg (aa Tryz.zeroValue238 (fun g5=>en (rg (p1 .mv (pp (PR.ia 2) (s1 0 (cs:=#[.int .u8 0,.int .u8 0,.int .u8 1]) ?_)))))))))))))
 refine en (dr0 [_,_,_,_,_,_,_,_,_,.any] [] [⟨9,_,_,_,2,.val (.int .u8 ((W2).toNat:Int))⟩] [3] [] ⟨rfl,trivial⟩ (fun Bs=>⟨kv (oP (PR.mv ez)),kv (oP (PR.sA)),kv (oP (PR.sA)),kv (oP (PR.mv ez)),kv (oC (fun _ _ h=>hA2 _ _ _ (blkSl (mk' 5 rfl rfl _ _ h) rfl) (blkSl (mk' 0 rfl rfl _ _ h) rfl))),kv (oP (PR.mv ed)),kv (oP (PR.ext ed)),kv (oP (PR.ext ed)),kv (oP (PR.ia 2 ez ed)),ks 0,trivial⟩) ?_)
 refine kM 3 #[.int .u8 ((W0).toNat:Int),.int .u8 ((W1).toNat:Int),.int .u8 ((W2).toNat:Int)] ?_
 refine bN (nN (rg0 ?_))
 refine pp (PR.ad 3) (p1 .mv (en0 (nN (kL [(2,.int .u8 (z.toNat:Int)),(3,pt g0),(4,pt g1),(7,pt g2),(14,i6 3)] (un (r1 .lss (se (cf (xt (nX (nX (bH (nN (rg (pp (PR.ia 0) (p2 .ld .ln (mY f0.length (fun gO=>?_))))))))))))))))))
 refine p1 .as (en (se (r3 .mv .l0 .mv (bl ?_))))
 have hfl:=lineW_len W0 W1 W2 f0 f1 f2
 refine kM 0 (cells8 (lnI (lineW W0 W1 W2 f0 f1 f2) 0)) ?_ (hc:=by rw[lnI_zero,hfl])
 refine lo (A:=Nat) (fun i=>i<=f0.length) (fun i=>f0.length-i) (fun i=>[(4,pt g1),(7,pt g2),(10,.slice (some ⟨gO,0,none⟩) f0.length f0.length),(34,i6 (f0.length:Int)),(35,i6 (i:Int))]) (fun i=>[(gO,isB 5 (cells8 (lnI (lineW W0 W1 W2 f0 f1 f2) i))),(g2,isB 238 #[.int .u8 ((W0).toNat:Int),.int .u8 ((W1).toNat:Int),.int .u8 ((W2).toNat:Int)]),(g1,isB 274 #[sv f0,sv f1,sv f2])]) (fun i=>[]) 0 (Nat.zero_le _) su (fun i hi=>?_)
 refine r1 .lss (se (sd (fun hi=>?_) (fun hi=>?_)))
 ·have hi:i<f0.length:=by omega
  refine sk (nN (se (bl (r2 .mv .as (r2 .lw .mv (bl (lr 4 (kL [(4,pt g1),(7,pt g2),(10,.slice (some ⟨gO,0,none⟩) f0.length f0.length),(11,i6 (i:Int)),(35,i6 (i:Int)),(34,i6 (f0.length:Int)),(38,.agg #[.int .u8 ((W0).toNat:Int),.int .u8 ((W1).toNat:Int),.int .u8 ((W2).toNat:Int)]),(39,i6 0)] ?_))))))))
  refine un (r1 .lss (se (ct (sk (nN (se (bl (rg (p1 .mv (pp (PR.xc 0) (p2 .as .as (en (dr0 [_,_,_,_,_,_,_,_,_,_,_,_,_,.any] [] [⟨13,_,_,_,i,.val (.int .u8 ((0^^^mulS W0 (bt f0 i)).toNat:Int))⟩] [0] [] ⟨rfl,trivial⟩ (fun Bs=>⟨kv (oP (PR.mv ez)),kv (oP (PR.mv ez)),kv (oP (PR.ib1 i (hi:=hi))),kv (oP (PR.lbv (o:=i) (l:=(lnI (lineW W0 W1 W2 f0 f1 f2) i)) (c:=(0:UInt8)) (by rw[lnI_len (by rw[hfl];omega),hfl];exact hi) (lnI_at (by rw[hfl];exact hi)) ed (MB.oo (b:=⟨_,gO,5,cells8 (lnI (lineW W0 W1 W2 f0 f1 f2) i),i,_⟩) 0 rfl (by kernel_rfl)))),kv (oP (PR.mv ez)),kv (oP (PR.mv ez)),kv (oP (PR.ia 0)),kv (oP PR.ld),kv (oP (PR.mv ez)),kv (oP (PR.sa (i:=i) (hn:=by omega))),kv (oC (fun _ _ _=>fmul_any W0 (bt f0 i) _)),kv (oP PR.xor8),kv (oP (PR.ib1 i (hi:=hi))),ks 0 (hz:=by show i+1<=(cells8 _).size;rw[cells8_size];exact(by rw[lnI_len (by rw[hfl];omega),hfl];exact hi)),trivial⟩) ?_)))))))))))))
  refine kM 0 (cells8 ((lnI (lineW W0 W1 W2 f0 f1 f2) i).set i (0^^^mulS W0 (bt f0 i)))) ?_ (hc:=(spl8 (c:=(0^^^mulS W0 (bt f0 i))) (by rw[lnI_len (by rw[hfl];omega),hfl];exact hi)))
  refine bN (nN (rg0 (pp (PR.ad 1) (p1 .mv (en0 (nN (kL [(4,pt g1),(7,pt g2),(10,.slice (some ⟨gO,0,none⟩) f0.length f0.length),(11,i6 (i:Int)),(35,i6 (i:Int)),(34,i6 (f0.length:Int)),(38,.agg #[.int .u8 ((W0).toNat:Int),.int .u8 ((W1).toNat:Int),.int .u8 ((W2).toNat:Int)]),(39,i6 1)] ?_)))))))
  refine un (r1 .lss (se (ct (sk (nN (se (bl (rg (p1 .mv (pp (PR.xc 1) (p2 .as .as (en (dr0 [_,_,_,_,_,_,_,_,_,_,_,_,_,.any] [] [⟨13,_,_,_,i,.val (.int .u8 ((0^^^mulS W0 (bt f0 i)^^^mulS W1 (bt f1 i)).toNat:Int))⟩] [0] [] ⟨rfl,trivial⟩ (fun Bs=>⟨kv (oP (PR.mv ez)),kv (oP (PR.mv ez)),kv (oP (PR.ib1 i (hi:=hi))),kv (oP (PR.lbv (o:=i) (l:=((lnI (lineW W0 W1 W2 f0 f1 f2) i).set i (0^^^mulS W0 (bt f0 i)))) (c:=(0^^^mulS W0 (bt f0 i))) (by rw[List.length_set,lnI_len (by rw[hfl];omega),hfl];exact hi) (bt_setS (by rw[lnI_len (by rw[hfl];omega),hfl];exact hi)) ed (MB.oo (b:=⟨_,gO,5,cells8 ((lnI (lineW W0 W1 W2 f0 f1 f2) i).set i (0^^^mulS W0 (bt f0 i))),i,_⟩) 0 rfl (by kernel_rfl)))),kv (oP (PR.mv ez)),kv (oP (PR.mv ez)),kv (oP (PR.ia 1)),kv (oP PR.ld),kv (oP (PR.mv ez)),kv (oP (PR.sa (i:=i) (hn:=by omega))),kv (oC (fun _ _ _=>fmul_any W1 (bt f1 i) _)),kv (oP PR.xor8),kv (oP (PR.ib1 i (hi:=hi))),ks 0 (hz:=by show i+1<=(cells8 _).size;rw[cells8_size];exact(by rw[List.length_set,lnI_len (by rw[hfl];omega),hfl];exact hi)),trivial⟩) ?_)))))))))))))
  refine kM 0 (cells8 ((lnI (lineW W0 W1 W2 f0 f1 f2) i).set i (0^^^mulS W0 (bt f0 i)^^^mulS W1 (bt f1 i)))) ?_ (hc:=((spl8 (c:=(0^^^mulS W0 (bt f0 i)^^^mulS W1 (bt f1 i))) (by rw[List.length_set,lnI_len (by rw[hfl];omega),hfl];exact hi)).trans (by rw[List.set_set])))
  refine bN (nN (rg0 (pp (PR.ad 2) (p1 .mv (en0 (nN (kL [(4,pt g1),(7,pt g2),(10,.slice (some ⟨gO,0,none⟩) f0.length f0.length),(11,i6 (i:Int)),(35,i6 (i:Int)),(34,i6 (f0.length:Int)),(38,.agg #[.int .u8 ((W0).toNat:Int),.int .u8 ((W1).toNat:Int),.int .u8 ((W2).toNat:Int)]),(39,i6 2)] ?_)))))))
  refine un (r1 .lss (se (ct (sk (nN (se (bl (rg (p1 .mv (pp (PR.xc 2) (p2 .as .as (en (dr0 [_,_,_,_,_,_,_,_,_,_,_,_,_,.any] [] [⟨13,_,_,_,i,.val (.int .u8 ((pxS W0 W1 W2 f0 f1 f2 i).toNat:Int))⟩] [0] [] ⟨rfl,trivial⟩ (fun Bs=>⟨kv (oP (PR.mv ez)),kv (oP (PR.mv ez)),kv (oP (PR.ib1 i (hi:=hi))),kv (oP (PR.lbv (o:=i) (l:=((lnI (lineW W0 W1 W2 f0 f1 f2) i).set i (0^^^mulS W0 (bt f0 i)^^^mulS W1 (bt f1 i)))) (c:=(0^^^mulS W0 (bt f0 i)^^^mulS W1 (bt f1 i))) (by rw[List.length_set,lnI_len (by rw[hfl];omega),hfl];exact hi) (bt_setS (by rw[lnI_len (by rw[hfl];omega),hfl];exact hi)) ed (MB.oo (b:=⟨_,gO,5,cells8 ((lnI (lineW W0 W1 W2 f0 f1 f2) i).set i (0^^^mulS W0 (bt f0 i)^^^mulS W1 (bt f1 i))),i,_⟩) 0 rfl (by kernel_rfl)))),kv (oP (PR.mv ez)),kv (oP (PR.mv ez)),kv (oP (PR.ia 2)),kv (oP PR.ld),kv (oP (PR.mv ez)),kv (oP (PR.sa (i:=i) (hn:=by omega))),kv (oC (fun _ _ _=>fmul_any W2 (bt f2 i) _)),kv (oP PR.xor8),kv (oP (PR.ib1 i (hi:=hi))),ks 0 (hz:=by show i+1<=(cells8 _).size;rw[cells8_size];exact(by rw[List.length_set,lnI_len (by rw[hfl];omega),hfl];exact hi)),trivial⟩) ?_)))))))))))))
  refine kM 0 (cells8 ((lnI (lineW W0 W1 W2 f0 f1 f2) i).set i (pxS W0 W1 W2 f0 f1 f2 i))) ?_ (hc:=((spl8 (c:=(pxS W0 W1 W2 f0 f1 f2 i)) (by rw[List.length_set,lnI_len (by rw[hfl];omega),hfl];exact hi)).trans (by rw[List.set_set])))
  refine bN (nN (rg0 (pp (PR.ad 3) (p1 .mv ?_))))
  refine en0 (nN (kL [(4,pt g1),(7,pt g2),(10,.slice (some ⟨gO,0,none⟩) f0.length f0.length),(11,i6 (i:Int)),(35,i6 (i:Int)),(34,i6 (f0.length:Int)),(38,.agg #[.int .u8 ((W0).toNat:Int),.int .u8 ((W1).toNat:Int),.int .u8 ((W2).toNat:Int)]),(39,i6 3)] (un (r1 .lss (se (cf (xt (nX (nX (bH (bN (nN (rg0 (pp (PR.ad ((i+1:Nat):Int)) (p1 .mv (en0 (nN (kM 0 (cells8 (lnI (lineW W0 W1 W2 f0 f1 f2) (i+1))) ?_ (hc:=by rw[show pxS W0 W1 W2 f0 f1 f2 i=bt (lineW W0 W1 W2 f0 f1 f2) i from(bt_line hi).symm,lnI_set (by rw[hfl];exact hi)])))))))))))))))))))
  exact bk (i+1) (by omega) (by omega) su
 ·have hi:i=f0.length:=by omega
  subst hi
  refine xt (nX (nX (bH (nN (kM 0 (cells8 (lineW W0 W1 W2 f0 f1 f2)) ?_ (hc:=by rw[←hfl,lnI_all]))))))
  exact rg (p1 .mv (pp (PR.bB (l:=(lineW W0 W1 W2 f0 f1 f2)) (hl:=hfl)) (p1 .as (en (rt q1)))))
structure V4 where
 a:Nat
 b:Nat
 c:Nat
 d:Nat
theorem cv8 {i:Nat}(h:i<256):IntKind.u8.wrap (i:Int)=((UInt8.ofNat i).toNat:Int):=by
 rw[UInt8.toNat_ofNat',Nat.mod_eq_of_lt (by simpa using h)]
 simp[IntKind.wrap,IntKind.signed,IntKind.bits]
 omega
theorem plines {w0:World}{M0:MT}{R0:List Rw}{x0 x1 x2:UInt8}{f0 f1 f2:List UInt8}{a b:Nat}:RM 157 #[.agg #[cb x0,cb x1,cb x2],.agg #[sv f0,sv f1,sv f2],i6 (a:Int),i6 (b:Int)] w0 M0 R0 (A:=V4) (fun _=>True) (fun q=>.func (.func 221) #[] #[pt q.c,pt q.d,pt q.a,pt q.b]) (fun q=>(q.d,isB 3 #[i6 (b:Int)])::(q.c,isB 3 #[i6 (a:Int)])::(q.b,isB 274 #[sv f0,sv f1,sv f2])::(q.a,isB 238 #[cb x0,cb x1,cb x2])::M0) (fun _=>R0):=by
 refine enterM Tryz.func157 ?_
 refine rg (ba (fun g0=>?_))
 refine ba (fun g1=>?_)
 refine b1 (fun g2=>?_)
 refine b1 (fun g3=>?_)
 exact p1 .as (en (rg (pp PR.mk (p1 .as (en (rt (rm ⟨g0,g1,g2,g3⟩ trivial (fun _ _ h=>h))))))))
theorem plines1 {w0:World}{X:Type}{l g4 g5 g6 g7 a b:Nat}{x0 x1 x2:UInt8}{f0 f1 f2:List UInt8}(M':Nat->X->MT)(R':Nat->X->List Rw)(q0:X)(hab:a<=b+1)(hb:b<256)(hX:[x0,x1,x2].Nodup)(h1:f1.length=f0.length)(h2:f2.length=f0.length)(hn:f0.length<=35184372088832)
  (hy:∀ i q,a<=i->i<=b->RY l [i6 (i:Int),sv (lineS x0 x1 x2 f0 f1 f2 (UInt8.ofNat i))] w0 ((g7,isB 3 #[i6 (b:Int)])::(g6,isB 3 #[i6 (a:Int)])::(g5,isB 274 #[sv f0,sv f1,sv f2])::(g4,isB 238 #[cb x0,cb x1,cb x2])::M' i q) (R' i q) (fun _=>True) (fun _=>true) (fun y=>(g7,isB 3 #[i6 (b:Int)])::(g6,isB 3 #[i6 (a:Int)])::(g5,isB 274 #[sv f0,sv f1,sv f2])::(g4,isB 238 #[cb x0,cb x1,cb x2])::M' (i+1) y) (fun y=>R' (i+1) y)) (M'':MT) (R'':List Rw) (hM:M''=(g7,isB 3 #[i6 (b:Int)])::(g6,isB 3 #[i6 (a:Int)])::(g5,isB 274 #[sv f0,sv f1,sv f2])::(g4,isB 238 #[cb x0,cb x1,cb x2])::M' a q0) (hR:R''=R' a q0) (w:World) (hw:MR w0 M'' R'' w) :
  Calls Tryz.prog 221 #[.func (.yield l) #[] #[],pt g6,pt g7,pt g4,pt g5] w fun e w'=>(∃ u,e = .returned u) ∧ ∃ y,MR w0 ((g7,isB 3 #[i6 (b:Int)])::(g6,isB 3 #[i6 (a:Int)])::(g5,isB 274 #[sv f0,sv f1,sv f2])::(g4,isB 238 #[cb x0,cb x1,cb x2])::M' (b+1) y) (R' (b+1) y) w':=by
 subst hM hR
 revert w hw
 refine enterM Tryz.func221 ?_
 refine r2 .ld .as (bl (lo2 (fun i _=>a<=i/\i<=b+1) (fun i _=>b+1-i) (fun i q=>[(0,.func (.yield l) #[] #[]),(2,pt g7),(3,pt g4),(4,pt g5),(6,i6 (i:Int))]) (fun i q=>(g7,isB 3 #[i6 (b:Int)])::(g6,isB 3 #[i6 (a:Int)])::(g5,isB 274 #[sv f0,sv f1,sv f2])::(g4,isB 238 #[cb x0,cb x1,cb x2])::M' i q) (fun i q=>R' i q) a q0 ⟨by omega,by omega⟩ su (fun i q hi=>?_)))
 refine se (r3 .mv .ld .leq (sd (fun hib=>?_) (fun hib=>?_)))
 ·skip
  refine sk (nN (se (bl (rgY ?_))))
  refine yP [_,_,_,_,_,_,_] [_,_] ?_
  refine p5 .mv .mv .lw .lw .mv (pp (PR.cv (r:=((UInt8.ofNat i).toNat:Int)) (cv8 (by omega))) (cl (fun _ _ h=>pline hX h1 h2 hn) (en0 (yk (hy i q (by omega) (by omega)) (fun q2 _=>?_)))))
  refine yE ?_
  exact p1 .not (en (cf (hb:=rfl) (sk (bN (nN (rg0 (p1 .mv (pp (PR.ad ((i+1:Nat):Int)) (p1 .as (en0 (nN (bk2 (i+1) q2 (by omega) (by omega) su))))))))))))
 ·have hie:i=b+1:=by omega
  subst hie
  exact xt (nX (nX (bH (e0N (fun u w h=>⟨⟨u,rfl⟩,q,h⟩)))))
def xB (i:Int):UInt8:=UInt8.ofNat i.toNat
def lin3 (x0 x1 x2:UInt8)(a b c:List UInt8):List UInt8:=lineS x0 x1 x2 a b c 1++lineS x0 x1 x2 a b c 2++lineS x0 x1 x2 a b c 3
def joinB (a b c:Fit):List UInt8:=(lin3 (xB a.i) (xB b.i) (xB c.i) a.d b.d c.d).take a.sz.toNat
theorem lin3_len (x0 x1 x2:UInt8)(a b c:List UInt8):(lin3 x0 x1 x2 a b c).length=3*a.length:=by
 simp only[lin3,List.length_append,lineS_len];omega
def f3 (a b c:Fit):Option (List UInt8):=if oneF a b=true/\oneF a c=true/\sumS (joinB a b c)=a.sum then some (joinB a b c) else none
def J3 (a b:Fit):List Fit->Option (List UInt8)
 | []=>none
 | c::r=>(f3 a b c).or (J3 a b r)
def J2 (a:Fit):List Fit->Option (List UInt8)
 | []=>none
 | b::r=>(J3 a b r).or (J2 a r)
def J1 :List Fit->Option (List UInt8)
 | []=>none
 | a::r=>(J2 a r).or (J1 r)
structure FitOk (f:Fit):Prop where
 z0:0<=f.sz
 z1:f.sz<=65536
 i0:1<=f.i
 i1:f.i<=5
 d:(f.d.length:Int)=rowsP f.sz
 s:f.sum.length=32
abbrev noFit :Fit:=⟨0,[],0,[]⟩
structure FitsOk (l:List Fit):Prop where
 ok:∀ f∈l,FitOk f
 up:l.Pairwise fun a b=>a.i<b.i
 n:l.length<=5
theorem fits_at {l:List Fit}{i:Nat}(h:i<l.length):l[i]?=some (l.getD i noFit):=by rw[List.getD_eq_getElem?_getD,List.getElem?_eq_getElem h];rfl
theorem drop_at {l:List Fit}{i:Nat}(h:i<l.length):l.drop i=l.getD i noFit::l.drop (i+1):=by
 rw[List.drop_eq_getElem_cons h]
 congr 1
 simp[List.getD_eq_getElem?_getD,h]
theorem FitsOk.at {l:List Fit}(h:FitsOk l){i:Nat}(hi:i<l.length):FitOk (l.getD i noFit):=h.ok _ (List.mem_of_getElem? (fits_at hi))
theorem FitsOk.lt {l:List Fit}(h:FitsOk l){i j:Nat}(hij:i<j)(hj:j<l.length):(l.getD i noFit).i<(l.getD j noFit).i:=by
 have:=List.pairwise_iff_getElem.1 h.up i j (by omega) hj hij
 simpa[List.getD_eq_getElem?_getD,hj,show i<l.length by omega] using this
theorem J1_step {l:List Fit}{i:Nat}(h:i<l.length):J1 (l.drop i)=(J2 (l.getD i noFit) (l.drop (i+1))).or (J1 (l.drop (i+1))):=by rw[drop_at h];rfl
theorem J2_step {l:List Fit}(a:Fit){i:Nat}(h:i<l.length):J2 a (l.drop i)=(J3 a (l.getD i noFit) (l.drop (i+1))).or (J2 a (l.drop (i+1))):=by rw[drop_at h];rfl
theorem J3_step {l:List Fit}(a b:Fit){i:Nat}(h:i<l.length):J3 a b (l.drop i)=(f3 a b (l.getD i noFit)).or (J3 a b (l.drop (i+1))):=by rw[drop_at h];rfl
def jnV :Option (List UInt8)->Value
 | none=>.tuple #[.string ⟨#[]⟩,.bool false]
 | some d=>.tuple #[.string ⟨d.toArray⟩,.bool true]
theorem rowsP_le {n:Int}(h0:0<=n)(h:n<=65536):rowsP n<=21846/\n<=3*rowsP n/\0<=rowsP n:=by
 unfold rowsP
 rw[if_neg (by omega)];omega
theorem pt_at {a b c:List UInt8}{ia ib ic:Nat}(k:Nat){x y:Value}(h:[Value.int .i64 (ia:Int),sv a,i6 (ib:Int),sv b,i6 (ic:Int),sv c][k]?=some x)(h2:[Value.int .i64 (ia:Int),sv a,i6 (ib:Int),sv b,i6 (ic:Int),sv c][k+1]?=some y)(j:Nat){u:Value}(hu:[x,y][j]?=some u):[Value.int .i64 (ia:Int),sv a,i6 (ib:Int),sv b,i6 (ic:Int),sv c][k+j]?=some u:=by
 match j,hu with
 | 0,hu=>rw[←hu];exact h
 | 1,hu=>rw[←hu];exact h2
 | j+2,hu=>simp at hu
theorem xs3_nd {a b c:Nat}(hab:a≠b)(hac:a≠c)(hbc:b≠c)(ha:a<=5)(hb:b<=5)(hc:c<=5):[UInt8.ofNat a,UInt8.ofNat b,UInt8.ofNat c].Nodup:=by
 have h:∀ x y:Nat,x<=5->y<=5->x≠y->UInt8.ofNat x≠UInt8.ofNat y:=fun x y hx hy hn he=>by
  have:=congrArg UInt8.toNat he
  rw[UInt8.toNat_ofNat',UInt8.toNat_ofNat',Nat.mod_eq_of_lt (by omega),Nat.mod_eq_of_lt (by omega)] at this
  exact hn this
 simp[h a b ha hb hab,h a c ha hc hac,h b c hb hc hbc]
def acN (x0 x1 x2:UInt8)(a b c:List UInt8):Nat->List UInt8
 | 0=>[]
 | n+1=>acN x0 x1 x2 a b c n++lineS x0 x1 x2 a b c (UInt8.ofNat (n+1))
theorem acN_len (x0 x1 x2:UInt8)(a b c:List UInt8):∀ n,(acN x0 x1 x2 a b c n).length=n*a.length
 | 0=>by simp[acN]
 | n+1=>by rw[acN,List.length_append,acN_len x0 x1 x2 a b c n,lineS_len,Nat.succ_mul]
theorem acN_all (x0 x1 x2:UInt8)(a b c:List UInt8):acN x0 x1 x2 a b c 3=lin3 x0 x1 x2 a b c:=by
 show(([]++_)++_)++_=_
 rw[List.nil_append];rfl
theorem rp_at {i:Nat}(h:i<=5):(List.replicate 6 false)[i]?=some false:=by rw[List.getElem?_replicate,if_pos (by omega)]
theorem fl_ne {l:List Bool}{i j:Nat}(h:i≠j)(hl:l[j]?=some false):(l.set i true)[j]?=some false:=by rw[List.getElem?_set_ne h];exact hl
abbrev Bp (g:Nat):={ p:Value // p = .pointer none\/p=slf g }
theorem pjoin {V:Value}{a b c:List UInt8}{ia ib ic:Nat}{n:Int}{w:World}(hV:Sl w V 2 3 [i6 (ia:Int),sv a,i6 (ib:Int),sv b,i6 (ic:Int),sv c])(hA:1<=ia/\ia<=5)(hB:1<=ib/\ib<=5)(hC:1<=ic/\ic<=5)(hab:ia≠ib)(hac:ia≠ic)(hbc:ib≠ic)(h0:0<=n)(h1:n<=65536)(ha:(a.length:Int)=rowsP n)(hb:(b.length:Int)=rowsP n)(hc:(c.length:Int)=rowsP n):RV 168 #[V,i6 n] w (.tuple #[sv ((lin3 (UInt8.ofNat ia) (UInt8.ofNat ib) (UInt8.ofNat ic) a b c).take n.toNat),i6 0]):=by
 refine enterR Tryz.func168 ?_
 have hN:[UInt8.ofNat ia,UInt8.ofNat ib,UInt8.ofNat ic].Nodup:=xs3_nd hab hac hbc hA.2 hB.2 hC.2
 have hr:=rowsP_le h0 h1
 refine r2 .as .as (se (rg (p3 .mv .lss .mv (gFf (hp:=PR.mv) ?_))))
 refine gFf (hp:=PR.gtr) ?_
 refine p1 .por ?_
 refine en (cf (hb:=by simp;omega) (sk (nN (rg (aa Tryz.zeroValue238 (fun g0=>en (rg (aa Tryz.zeroValue274 (fun g1=>en (rg (aa Tryz.zeroValue358 (fun g2=>en (kM 0 (bls (List.replicate 6 false)) ?_)))))))))))))
 refine r1 .as (se (rg (p1 .mv (pp (PR.lr) (p1 .mv (en (bl (lr 4 ?_))))))))
 refine kL [(0,V),(1,i6 n),(6,pt g0),(7,pt g1),(8,pt g2),(9,i6 0),(21,V),(22,i6 3),(23,i6 0)] (un (r1 .lss (se (ct (sk (nN (se (bl (rg (pp (PR.ix (i:=0)) (pp (PR.lq (ys:=[i6 (ia:Int),sv a]) (fun j u hu=>pt_at 0 rfl rfl j hu)) (aa Tryz.zeroValue196 (fun g3=>sw 0 ?_)))))))))))))
 refine en (se (r2 .mv .eqi (cf (hb:=rfl) (sk (nN (se (rg (p4 .fa .ld .lss .mv (gFf (hp:=PR.fa) ?_)))))))))
 refine gFf (hp:=PR.ld) ?_
 refine gFf (hp:=PR.gtr) ?_
 refine p1 .por (en ?_)
 refine cf (hb:=by simp;omega) (sk (nN (se (rg (p2 .fa .ld (pp (PR.ia ia) (pp (PR.lc (o:=0+ia*1) (v:=.bool false) (by rw[show 0+ia*1=ia by omega];exact bls_at (rp_at (by omega)))) (en (cf (hb:=rfl) (sk (nN (se (dr [_,_,_,_,_,_] [] [] [] [46] trivial (fun Bs=>⟨kv (oP (PR.fa ez)),kv (oP (PR.ld ed (mk' 0))),kv (oP (PR.ln ed)),kv (oP (PR.mv ez)),kv (oC (fun _ _ _=>prows n _ (by omega))),kv (oP (PR.nei ed ed)),trivial⟩) ?_)))))))))))))
 refine cf (hb:=by rw[decide_eq_false_iff_not];omega) (sk (nN (rg (p2 .fa .ld (pp (PR.ia ia) (s1 1 (cs:=bls ((List.replicate 6 false).set ia true)) ?_ (ho:=by rw[bls_size];simp;omega) (hcs:=by rw[show 0+ia*1=ia by omega];exact spl_bls (by simp;omega))))))))
 refine en (dr [_,_,_,_,_,_,_,_,.any,_,.any] [] [⟨8,_,_,_,0,.val (.int .u8 ((UInt8.ofNat ia).toNat:Int))⟩,⟨10,_,_,_,0,.val (sv a)⟩] [3,2] [] ⟨rfl,rfl,trivial⟩ (fun Bs=>⟨kv (oP (PR.mv ez)),kv (oP (PR.mv ez)),kv (oP (PR.fa ez)),kv (oP (PR.ld ed (mk' 0))),kv (oP (PR.cv (r:=((UInt8.ofNat ia).toNat:Int)) (cv8 (by omega)) ed)),kv (oP (PR.fa ez)),kv (oP (PR.ld ed (mk' 0))),kv (oP (PR.ia 0)),ks 0,kv (oP (PR.ia 0)),ks 1,trivial⟩) ?_)
 refine kM 3 #[.int .u8 ((UInt8.ofNat ia).toNat:Int),.int .u8 0,.int .u8 0] ?_
 refine kM 2 #[sv a,.string ⟨#[]⟩,.string ⟨#[]⟩] ?_
 refine rg0 (p1 .mv (pp (PR.ad 1) (p1 .as (en0 (bN (nN (rg0 (pp (PR.ad 1) (p1 .mv (en0 (nN ?_)))))))))))
 refine kL [(0,V),(1,i6 n),(6,pt g0),(7,pt g1),(8,pt g2),(9,i6 1),(21,V),(22,i6 3),(23,i6 1)] (un (r1 .lss (se (ct (sk (nN (se (bl (rg (pp (PR.ix (i:=1)) (pp (PR.lq (ys:=[i6 (ib:Int),sv b]) (fun j u hu=>pt_at 2 rfl rfl j hu)) (aa Tryz.zeroValue196 (fun g4=>sw 0 ?_)))))))))))))
 refine en (se (r2 .mv .eqi (cf (hb:=rfl) (sk (nN (se (rg (p4 .fa .ld .lss .mv (gFf (hp:=PR.fa) ?_)))))))))
 refine gFf (hp:=PR.ld) ?_
 refine gFf (hp:=PR.gtr) ?_
 refine p1 .por (en ?_)
 refine cf (hb:=by simp;omega) (sk (nN (se (rg (p2 .fa .ld (pp (PR.ia ib) (pp (PR.lc (o:=0+ib*1) (v:=.bool false) (by rw[show 0+ib*1=ib by omega];exact bls_at (fl_ne hab (rp_at (by omega))))) (en (cf (hb:=rfl) (sk (nN (se (dr [_,_,_,_,_,_] [] [] [] [46] trivial (fun Bs=>⟨kv (oP (PR.fa ez)),kv (oP (PR.ld ed (mk' 0))),kv (oP (PR.ln ed)),kv (oP (PR.mv ez)),kv (oC (fun _ _ _=>prows n _ (by omega))),kv (oP (PR.nei ed ed)),trivial⟩) ?_)))))))))))))
 refine cf (hb:=by rw[decide_eq_false_iff_not];omega) (sk (nN (rg (p2 .fa .ld (pp (PR.ia ib) (s1 2 (cs:=bls (((List.replicate 6 false).set ia true).set ib true)) ?_ (ho:=by rw[bls_size];simp;omega) (hcs:=by rw[show 0+ib*1=ib by omega];exact spl_bls (by simp;omega))))))))
 refine en (dr [_,_,_,_,_,_,_,_,.any,_,.any] [] [⟨8,_,_,_,1,.val (.int .u8 ((UInt8.ofNat ib).toNat:Int))⟩,⟨10,_,_,_,1,.val (sv b)⟩] [4,3] [] ⟨rfl,rfl,trivial⟩ (fun Bs=>⟨kv (oP (PR.mv ez)),kv (oP (PR.mv ez)),kv (oP (PR.fa ez)),kv (oP (PR.ld ed (mk' 0))),kv (oP (PR.cv (r:=((UInt8.ofNat ib).toNat:Int)) (cv8 (by omega)) ed)),kv (oP (PR.fa ez)),kv (oP (PR.ld ed (mk' 0))),kv (oP (PR.ia 1)),ks 0,kv (oP (PR.ia 1)),ks 1,trivial⟩) ?_)
 refine kM 4 #[.int .u8 ((UInt8.ofNat ia).toNat:Int),.int .u8 ((UInt8.ofNat ib).toNat:Int),.int .u8 0] ?_
 refine kM 3 #[sv a,sv b,.string ⟨#[]⟩] ?_
 refine rg0 (p1 .mv (pp (PR.ad 2) (p1 .as (en0 (bN (nN (rg0 (pp (PR.ad 2) (p1 .mv (en0 (nN ?_)))))))))))
 refine kL [(0,V),(1,i6 n),(6,pt g0),(7,pt g1),(8,pt g2),(9,i6 2),(21,V),(22,i6 3),(23,i6 2)] (un (r1 .lss (se (ct (sk (nN (se (bl (rg (pp (PR.ix (i:=2)) (pp (PR.lq (ys:=[i6 (ic:Int),sv c]) (fun j u hu=>pt_at 4 rfl rfl j hu)) (aa Tryz.zeroValue196 (fun g5=>sw 0 ?_)))))))))))))
 refine en (se (r2 .mv .eqi (cf (hb:=rfl) (sk (nN (se (rg (p4 .fa .ld .lss .mv (gFf (hp:=PR.fa) ?_)))))))))
 refine gFf (hp:=PR.ld) ?_
 refine gFf (hp:=PR.gtr) ?_
 refine p1 .por (en ?_)
 refine cf (hb:=by simp;omega) (sk (nN (se (rg (p2 .fa .ld (pp (PR.ia ic) (pp (PR.lc (o:=0+ic*1) (v:=.bool false) (by rw[show 0+ic*1=ic by omega];exact bls_at (fl_ne hbc (fl_ne hac (rp_at (by omega)))))) (en (cf (hb:=rfl) (sk (nN (se (dr [_,_,_,_,_,_] [] [] [] [46] trivial (fun Bs=>⟨kv (oP (PR.fa ez)),kv (oP (PR.ld ed (mk' 0))),kv (oP (PR.ln ed)),kv (oP (PR.mv ez)),kv (oC (fun _ _ _=>prows n _ (by omega))),kv (oP (PR.nei ed ed)),trivial⟩) ?_)))))))))))))
 refine cf (hb:=by rw[decide_eq_false_iff_not];omega) (sk (nN (rg (p2 .fa .ld (pp (PR.ia ic) (s1 3 (cs:=bls ((((List.replicate 6 false).set ia true).set ib true).set ic true)) ?_ (ho:=by rw[bls_size];simp;omega) (hcs:=by rw[show 0+ic*1=ic by omega];exact spl_bls (by simp;omega))))))))
 refine en (dr [_,_,_,_,_,_,_,_,.any,_,.any] [] [⟨8,_,_,_,2,.val (.int .u8 ((UInt8.ofNat ic).toNat:Int))⟩,⟨10,_,_,_,2,.val (sv c)⟩] [5,4] [] ⟨rfl,rfl,trivial⟩ (fun Bs=>⟨kv (oP (PR.mv ez)),kv (oP (PR.mv ez)),kv (oP (PR.fa ez)),kv (oP (PR.ld ed (mk' 0))),kv (oP (PR.cv (r:=((UInt8.ofNat ic).toNat:Int)) (cv8 (by omega)) ed)),kv (oP (PR.fa ez)),kv (oP (PR.ld ed (mk' 0))),kv (oP (PR.ia 2)),ks 0,kv (oP (PR.ia 2)),ks 1,trivial⟩) ?_)
 refine kM 5 #[.int .u8 ((UInt8.ofNat ia).toNat:Int),.int .u8 ((UInt8.ofNat ib).toNat:Int),.int .u8 ((UInt8.ofNat ic).toNat:Int)] ?_
 refine kM 4 #[sv a,sv b,sv c] ?_
 refine rg0 (p1 .mv (pp (PR.ad 3) (p1 .as (en0 (bN (nN (rg0 (pp (PR.ad 3) (p1 .mv (en0 (nN (kL [(0,V),(1,i6 n),(6,pt g0),(7,pt g1),(8,pt g2),(9,i6 3),(21,V),(22,i6 3),(23,i6 3)] (un ?_)))))))))))))
 refine r1 .lss (se (cf (xt (nX (nX (bH (nN (se (r2 .mv .lss (cf (hb:=rfl) (sk (nN (rg (aa Tryz.zeroValue140 (fun g6=>en (se (kR [(g6,isB 140 #[.pointer none,nv]),(g1,isB 274 #[sv a,sv b,sv c]),(g0,isB 238 #[cb (UInt8.ofNat ia),cb (UInt8.ofNat ib),cb (UInt8.ofNat ic)])] [] ?_)))))))))))))))))
 refine rg (p2 .lw .lw (cm (plines (x0:=UInt8.ofNat ia) (x1:=UInt8.ofNat ib) (x2:=UInt8.ofNat ic) (f0:=a) (f1:=b) (f2:=c) (a:=1) (b:=3)) (fun q _=>?_)))
 refine en (bl (kR ([(q.d,isB 3 #[i6 ((3:Nat):Int)]),(q.c,isB 3 #[i6 ((1:Nat):Int)]),(q.b,isB 274 #[sv a,sv b,sv c]),(q.a,isB 238 #[cb (UInt8.ofNat ia),cb (UInt8.ofNat ib),cb (UInt8.ofNat ic)])] ++ [(g6,isB tB #[.pointer none,nv])]) [] ?_))
 refine nr 5 1 ?_
 refine rf [(q.d,isB 3 #[i6 ((3:Nat):Int)]),(q.c,isB 3 #[i6 ((1:Nat):Int)]),(q.b,isB 274 #[sv a,sv b,sv c]),(q.a,isB 238 #[cb (UInt8.ofNat ia),cb (UInt8.ofNat ib),cb (UInt8.ofNat ic)])] [(g6,isB tB #[.pointer none,nv])] (Y:=Bp g6×Value) (fun _=>True) (fun y=>[(g6,isB tB #[y.1.1,y.2])]) (fun y=>[⟨y.2,5,1,(acN (UInt8.ofNat ia) (UInt8.ofNat ib) (UInt8.ofNat ic) a b c 3).length,(acN (UInt8.ofNat ia) (UInt8.ofNat ib) (UInt8.ofNat ic) a b c 3).map cb⟩]) (hc:=fun l dd rc hr0 hp0 hY w hw=>(plines1 (X:=Bp g6×Value) (l:=l) (g4:=q.a) (g5:=q.b) (g6:=q.c) (g7:=q.d) (a:=1) (b:=3) (x0:=UInt8.ofNat ia) (x1:=UInt8.ofNat ib) (x2:=UInt8.ofNat ic) (f0:=a) (f1:=b) (f2:=c) (fun _ y=>Lp l rc::Df dd :: [(g6,isB tB #[y.1.1,y.2])]) (fun i y=>[⟨y.2,5,1,(acN (UInt8.ofNat ia) (UInt8.ofNat ib) (UInt8.ofNat ic) a b c (i-1)).length,(acN (UInt8.ofNat ia) (UInt8.ofNat ib) (UInt8.ofNat ic) a b c (i-1)).map cb⟩]) (⟨.pointer none,.inl rfl⟩,nv) (by decide) (by decide) hN (by omega) (by omega) (by omega) (fun i y h1 h3=>?_) _ _ rfl rfl w hw).mono fun e w' ⟨h1,y,h2⟩=>⟨h1,y,trivial,h2.sub (List.sublist_append_right [_,_,_,_] _) (List.Sublist.refl _)⟩) (h:=fun dd y hJ=>?_)
 ·skip
  obtain⟨i,rfl⟩:∃ j,i=j+1:=⟨i-1,by omega⟩
  intro w2 hw2
  refine hY _ _ _ _ _ 4 rfl ?_ w2 hw2
  refine wRi ?_
  refine rgI0 ?_
  refine p1 .as (en0 (nN (bgI 4 rfl hr0 ?_)))
  refine blI ?_
  refine rgI0 ?_ (hQ:=fun _ _ h=>h)
  refine p1 .mv (fr [6] [] ?_)
  refine cm (bws (s:=lineS (UInt8.ofNat ia) (UInt8.ofNat ib) (UInt8.ofNat ic) a b c (UInt8.ofNat (i+1))) y.1.2 (by rw[Nat.add_sub_cancel,acN_len,lineS_len];have:i*a.length<=2*a.length:=Nat.mul_le_mul_right _ (by omega);omega)) (fun v2 _=>?_)
  refine fr [6,6,6,6,6,6] [] ?_
  exact en0 (bN (roI 4 rfl hr0 hp0 (fun w h=>⟨(⟨slf _,.inr rfl⟩,v2),trivial,rfl,h⟩)))
 ·skip
  refine bN (nN (rg (fx [1] [] [(g6,isB tB #[y.1.1,y.2]),Df dd] [⟨y.2,5,1,(acN (UInt8.ofNat ia) (UInt8.ofNat ib) (UInt8.ofNat ic) a b c 3).length,(acN (UInt8.ofNat ia) (UInt8.ofNat ib) (UInt8.ofNat ic) a b c 3).map cb⟩] ?_)))
  refine bst (hp:=y.1.2) ?_
  exact p1 .mv (pp (PR.st (p:=n) (s:=acN (UInt8.ofNat ia) (UInt8.ofNat ib) (UInt8.ofNat ic) a b c 3) (i:=n.toNat) (hp:=by omega) (hn:=by rw[acN_len];omega)) (p2 .as .as (en (rt (mo 0 (qv (hv:=by rw[acN_all];rfl)))))))
end Go.Proofs.YtdjholkjkbihmaaGreatDoor
