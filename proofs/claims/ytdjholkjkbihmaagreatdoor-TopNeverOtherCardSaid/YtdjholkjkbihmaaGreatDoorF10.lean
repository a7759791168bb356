/- Laws and walks of TopNeverOther. -/
import Derived.Lib.ParseIntBTie
import Derived.Shelf.Strings.Builder1
import Derived.Shelf.Strings.Builder2
import Derived.Test.YtdjholkjkbihmaaGreatDoorRows
import Derived.Laws.Bits128
import Derived.Deep.DeepCutAuto
import Derived.Test.YtdjholkjkbihmaaGreatDoorF09
namespace Go.Proofs.YtdjholkjkbihmaaGreatDoor
open Go.RowKit
set_option maxRecDepth 100000
set_option maxHeartbeats 4000000
section
open Go.RowKit Go.Shelf
theorem var_below {P:Program}{w w2:World}{n:String}{cs:Array Value}(h:Below w.heap.size w w2)(hv:w.var? P n=some cs):w2.var? P n=some cs:=by
 unfold World.var? at *
 cases hg:P.globalNamed n with
 | none=>rw[hg] at hv;cases hv
 | some g=>
  rw[hg] at hv
  simp only[Option.bind_some] at hv ⊢
  cases ho:w.heap[g]? with
  | none=>rw[ho] at hv;cases hv
  | some ob=>rw[h.block g (lt_of_ob ho),ho];rw[ho] at hv;exact hv
structure GL (w:World):Prop where
 t:Lib.TabIs Tryz.prog w "internal/strconv.uint64pow10" .u64 Lib.pow10Tab
 s:∃ tp p,w.var? Tryz.prog "strconv.ErrSyntax" = some #[.iface tp p]
 r:∃ tp p,w.var? Tryz.prog "strconv.ErrRange" = some #[.iface tp p]
theorem GL.below {w w2:World}(h:GL w)(hb:Below w.heap.size w w2):GL w2:=by
 obtain⟨h1,⟨a,b,h2⟩,c,d,h3⟩:=h
 exact⟨var_below hb h1,⟨a,b,var_below hb h2⟩,c,d,var_below hb h3⟩
theorem fmt10 {n:Int}{w:World}(hG:GL w)(h:-9223372036854775808<=n/\n<=9223372036854775807):RV 173 #[i6 n,i6 10] w (sv (Lib.itoa n)) :=
 (Any.strconv_FormatInt_10 lay173 n h.1 h.2 w hG.t).mono fun _ _ ⟨h1,k,os,h2⟩=>⟨h1,by
  subst h2
  refine⟨rfl,rfl,rfl,?_,fun b hb=>?_⟩
  ·show w.heap.size<=(w.heap++os).size
   rw[Array.size_append];omega
  ·show(w.heap++os)[b]?=w.heap[b]?
   exact Array.getElem?_append_left hb⟩
section
variable {G:Kn}{x:Operand}{t t2:TypeId}{ms:Array (String×TypeId)}{tp:TypeId}{p:Value}
theorem run_ifn {P:Program}{a:Act}{w:World}{o:Oper}{u:Value}{b:Bool}(hb:(u = .nilIface/\b=true)\/((∃ tp p,u = .iface tp p)/\b=false))(ho:o.op = .binOp .neq t x (.const .nilIface) t2)(hx:a.eval x=u)(hu:P.underlying t=some (.interface ms)):(execOp a.eval o).run P w = .ok (.value (.bool (!b))) w:=by
 have h9:∀ d:Nat,(Op.equalIn (d+1) t u .nilIface).run P w = .ok b w:=by
  intro d
  rcases hb with⟨rfl,rfl⟩ | ⟨⟨tp,p,rfl⟩,rfl⟩ <;> simp[Op.equalIn,run_underlying hu]
 have hy:a.eval (.const .nilIface) = .nilIface:=rfl
 rcases hb with⟨rfl,rfl⟩ | ⟨⟨tp,p,rfl⟩,rfl⟩
 ·refine run_bin ho hx hy (by simp[eqGuard,go_sem]) ?_
  simp only[binOp]
  simp[Op.equal,Op.maxDepth,h9 9999]
 ·refine run_bin ho hx hy (by simp[eqGuard,go_sem]) ?_
  simp only[binOp]
  simp[Op.equal,Op.maxDepth,h9 9999]
theorem PR.if0 (hx:EV G x .nilIface:=by exact ev)(hu:Tryz.prog.underlying t=some (.interface ms)):PR Tryz.prog G (.binOp .neq t x (.const .nilIface) t2) (.bool false):=fun a w _ ho hg=>run_ifn (.inl ⟨rfl,rfl⟩) ho (hx a w hg) hu
theorem PR.if1 (hx:EV G x (.iface tp p):=by exact ev)(hu:Tryz.prog.underlying t=some (.interface ms)):PR Tryz.prog G (.binOp .neq t x (.const .nilIface) t2) (.bool true):=fun a w _ ho hg=>run_ifn (.inr ⟨⟨_,_,rfl⟩,rfl⟩) ho (hx a w hg) hu
end
theorem prs_ok {s:List UInt8}{v:Int}(hv:Lib.parseIntB 64 s = .ok v)(w:World)(hs:s.length<=2^47):RV 229 #[sv s,i6 10,i6 64] w (.tuple #[i6 v,.nilIface]) :=
 (Any.strconv_ParseInt_10_at64_ok lay174 ⟨s.toArray⟩ (by show s.toArray.size<=_;simp;omega) v (by simpa using hv) w).mono fun _ _ ⟨h1,h2⟩=>⟨h1,by
  rcases h2 with rfl | ⟨t,rfl⟩
  ·exact Below.refl _ _
  ·exact⟨rfl,rfl,rfl,by rw[Lib.bytesWorld_size];omega,fun b hb=>Lib.bytesWorld_at_old w _ _ b hb⟩⟩
def badV (s:List UInt8):Int:=match Lib.parseIntB 64 s with
 | .range=>Lib.intSat 64 s
 | _=>0
theorem prs_bad {s:List UInt8}{w:World}(hG:GL w)(hs:s.length<=2^47)(hv:∀ v,Lib.parseIntB 64 s ≠ .ok v):RT 229 #[sv s,i6 10,i6 64] w (.ex (fun _=>True) fun N=>.ret (.tuple #[i6 (badV s),.iface 400 (pt N.length)])):=by
 have hz:(⟨s.toArray⟩:ByteArray).size<=281474976710656:=by show s.toArray.size<=_;simp;omega
 have key:∀ {w':World} {e:Ending} {N:Nat},e = .returned (.tuple #[i6 (badV s),.iface 400 (pt N)])->Below w.heap.size w w'->∃ u,e = .returned u/\(Tele.ex (fun _=>True) fun N=>.ret (.tuple #[i6 (badV s),.iface 400 (pt N.length)])).sat w.heap.size w' [] u/\Below w.heap.size w w':=fun {w' e N} h1 h2=>⟨_,h1,⟨List.replicate N 0,trivial,by
  have e:(List.replicate N (0:UInt8)).length=N:=List.length_replicate
  show _=Value.tuple _
  rw[e]⟩,h2⟩
 obtain⟨tp,p,h1⟩:=hG.s
 obtain⟨tp2,p2,h2⟩:=hG.r
 cases hr:Lib.parseIntB 64 s with
 | ok v=>exact absurd hr (hv v)
 | range=>
  have hb0:badV s=Lib.intSat 64 s:=by unfold badV;rw[hr]
  exact(Any.strconv_ParseInt_10_at64_range_var lay174 ⟨s.toArray⟩ hz (by simpa using hr) tp2 p2 w h2).mono fun _ _ ⟨N,q1,_,_,q2⟩=>key (N:=N) (q1.trans (by rw[hb0];rfl)) q2
 | _=>
  have hb0:badV s=0:=by unfold badV;rw[hr]
  exact(Any.strconv_ParseInt_10_at64_syntax_var lay174 ⟨s.toArray⟩ hz (by simpa using hr) tp p w h1).mono fun _ _ ⟨N,q1,_,_,q2⟩=>key (N:=N) (q1.trans (by rw[hb0];rfl)) q2
def intS (s:List UInt8):Option Int:=match Lib.parseIntB 64 s with
 | .ok v=>if Lib.itoa v=s then some v else none
 | _=>none
theorem ndec {n:Int}{w:World}(hG:GL w)(hn:-9223372036854775808<=n/\n<=9223372036854775807):RV 119 #[i6 n] w (sv (Lib.itoa n)):=by
 refine enter Tryz.func119 ?_
 exact r1 .as (rg (p1 .mv (cl (fun _ _ h=>fmt10 (hG.below h.m.below) hn) (p1 .as (en (rt q1))))))
theorem nint_ok {s:List UInt8}{v:Int}{w:World}(hG:GL w)(hs:s.length<=2^47)(hv:Lib.parseIntB 64 s = .ok v)(hn:-9223372036854775808<=v/\v<=9223372036854775807):RV 166 #[sv s] w (.tuple #[i6 ((intS s).getD 0),.bool (intS s).isSome]):=by
 refine enter Tryz.func166 ?_
 refine r2 .as .as (rg (p1 .mv (cl (fun _ _ h=>prs_ok hv _ hs) (p5 .mv .ext .ext .as .as (en (se (rg (p1 .mv (pp (PR.if0 ev Tryz.underlying144) (p1 .mv (gFf (hp:=PR.mv) ?_)))))))))))
 refine gcD (fun _ _ _ h=>ndec (hG.below h.m.below) hn) ?_
 refine gFf (hp:=PR.mv) ?_
 refine gFf (hp:=PR.nes) ?_
 refine p1 .por (en (cs (fun hb=>?_) (fun hb=>?_)))
 ·have hb2:¬ Lib.itoa v=s:=by simpa using hb
  rw[show intS s=none from by unfold intS;rw[hv];exact if_neg hb2]
  exact r2 .as .as (rt (nR qv))
 ·have hb2:Lib.itoa v=s:=by simpa using hb
  rw[show intS s=some v from by unfold intS;rw[hv];exact if_pos hb2]
  exact sk (nN (r3 .mv .as .as (rt qv)))
theorem nint_bad {s:List UInt8}{v:Int}{w:World}(hG:GL w)(hs:s.length<=2^47)(hv:∀ v,Lib.parseIntB 64 s ≠ .ok v):RV 166 #[sv s] w (.tuple #[i6 0,.bool false]):=by
 refine enter Tryz.func166 ?_
 refine r2 .as .as (rg (p1 .mv (ce (fun _ _ h=>prs_bad (hG.below h.m.below) hs hv) (fun N _=>?_))))
 refine p5 .mv .ext .ext .as .as (en (se (rg (p1 .mv (pp (PR.if1 ev Tryz.underlying144) (p1 .mv (gFf (hp:=PR.mv) ?_)))))))
 refine gcD (b:=true) (v:=sv ([]:List UInt8)) (args:=[i6 (badV s)]) (fun hb=>absurd hb (by decide)) ?_
 refine gFf (hp:=PR.mv) ?_
 refine gFf (hp:=PR.nes) ?_
 exact p1 .por (en (ct (r2 .as .as (rt (nR qv)))))
end

def hx (v:List Wd)(a b d:Nat)(x:Wd)(k:Nat):List Wd :=
 (v.set a (gt v a+(gt v b+x))).set d (rl (gt (v.set a (gt v a+(gt v b+x))) d^^^gt (v.set a (gt v a+(gt v b+x))) a) k)
def mixS (v:List Wd)(a b c d:Nat)(x y:Wd):List Wd:=hf (hx (hf (hx v a b d x 16) c d b 20) a b d y 24) c d b 25
theorem hx_len (v:List Wd)(a b d:Nat)(x:Wd)(k:Nat):(hx v a b d x k).length=v.length:=by simp[hx]
theorem mixS_len (v:List Wd)(a b c d:Nat)(x y:Wd):(mixS v a b c d x y).length=v.length:=by simp[mixS,hf_len,hx_len]
def eightV :List Wd:=[1779033703#32,3144134277#32,1013904242#32,2773480762#32,1359893119#32,2600822924#32,528734635#32,1541459225#32]
def sigma :List (List UInt8):=[
 [0,1,2,3,4,5,6,7,8,9,10,11,12,13,14,15],[14,10,4,8,9,15,13,6,1,12,0,2,11,7,5,3],[11,8,12,0,5,2,15,13,10,14,3,6,7,1,9,4],[7,9,3,1,13,12,11,14,2,6,5,10,4,0,15,8],
 [9,0,5,7,2,4,10,15,14,1,11,12,6,8,3,13],[2,12,6,10,0,11,8,3,4,13,7,5,15,14,1,9],[12,5,1,15,14,13,4,10,0,7,6,3,9,2,8,11],[13,11,7,14,12,1,3,9,5,0,15,4,8,6,2,10],
 [6,15,14,9,11,3,0,8,12,2,13,7,1,4,10,5],[10,2,8,4,7,6,1,5,15,11,9,14,3,12,13,0]]
def sg (r i:Nat):Nat:=(bt (sigma.getD r []) i).toNat
def mw (m:List Wd)(r i:Nat):Wd:=gt m (sg r i)
def roundS (m v:List Wd)(r:Nat):List Wd :=
 let v1:=mixS v 0 4 8 12 (mw m r 0) (mw m r 1)
 let v2:=mixS v1 1 5 9 13 (mw m r 2) (mw m r 3)
 let v3:=mixS v2 2 6 10 14 (mw m r 4) (mw m r 5)
 let v4:=mixS v3 3 7 11 15 (mw m r 6) (mw m r 7)
 let v5:=mixS v4 0 5 10 15 (mw m r 8) (mw m r 9)
 let v6:=mixS v5 1 6 11 12 (mw m r 10) (mw m r 11)
 let v7:=mixS v6 2 7 8 13 (mw m r 12) (mw m r 13)
 mixS v7 3 4 9 14 (mw m r 14) (mw m r 15)
def roundsS (m v:List Wd):Nat->List Wd
 | 0=>v
 | r+1=>roundS m (roundsS m v r) r
theorem roundS_len (m v:List Wd)(r:Nat):(roundS m v r).length=v.length:=by simp[roundS,mixS_len]
theorem roundsS_len (m v:List Wd)(r:Nat):(roundsS m v r).length=v.length:=by
 induction r with
 | zero=>rfl
 | succ r ih=>simp[roundsS,roundS_len,ih]
def wordsTo (b:List UInt8):Nat->List Wd
 | 0=>List.replicate 16 0
 | i+1=>(wordsTo b i).set i (wdAt b (4*i))
theorem wordsTo_len (b:List UInt8)(i:Nat):(wordsTo b i).length=16:=by
 induction i with
 | zero=>rfl
 | succ i ih=>simp[wordsTo,ih]
def startV (h:List Wd)(t:Nat)(last:Bool):List Wd :=
 let v:=h++eightV
 let v:=v.set 12 (gt v 12^^^BitVec.ofNat 32 t)
 let v:=v.set 13 (gt v 13^^^BitVec.ofNat 32 (t/4294967296))
 if last then v.set 14 (~~~ (gt v 14)) else v
theorem startV_len (h:List Wd)(t:Nat)(last:Bool)(hl:h.length=8):(startV h t last).length=16:=by
 unfold startV;cases last <;> simp[hl,eightV]
def foldTo (h v:List Wd):Nat->List Wd
 | 0=>h
 | i+1=>(foldTo h v i).set i (gt h i^^^(gt v i^^^gt v (i+8)))
theorem foldTo_len (h v:List Wd)(i:Nat):(foldTo h v i).length=h.length:=by
 induction i with
 | zero=>rfl
 | succ i ih=>simp[foldTo,ih]
theorem foldTo_at (h v:List Wd)(i j:Nat)(hij:i<=j)(hi:i<=h.length):gt (foldTo h v i) j=gt h j:=by
 induction i with
 | zero=>rfl
 | succ i ih=>rw[foldTo,gt_set _ _ _ _ (by rw[foldTo_len];omega),if_neg (by omega),ih (by omega) (by omega)]
def compress (h:List Wd)(b:List UInt8)(t:Nat)(last:Bool):List Wd:=foldTo h (roundsS (wordsTo b 16) (startV h t last) 10) 8
theorem compress_len (h:List Wd)(b:List UInt8)(t:Nat)(last:Bool):(compress h b t last).length=h.length:=by unfold compress;rw[foldTo_len]
def pad64 (b:List UInt8):List UInt8:=b++List.replicate (64-b.length) 0
def hashTo (h0:List Wd)(p:List UInt8):Nat->List Wd
 | 0=>h0
 | q+1=>compress (hashTo h0 p q) ((p.drop (64*q)).take 64) (64*(q+1)) false
theorem hashTo_len (h0:List Wd)(p:List UInt8)(q:Nat):(hashTo h0 p q).length=h0.length:=by
 induction q with
 | zero=>rfl
 | succ q ih=>rw[hashTo,compress_len,ih]
def full (n:Nat):Nat:=(n-1)/64
def blake (h0:List Wd)(p:List UInt8):List Wd:=compress (hashTo h0 p (full p.length)) (pad64 (p.drop (64*full p.length))) p.length true
def outD (h:List Wd):Nat->List UInt8
 | 0=>List.replicate 32 0
 | m+1=>(outD h m).set m (byteOf (gt h (m/4)) (m%4))
theorem outD_len (h:List Wd)(m:Nat):(outD h m).length=32:=by
 induction m with
 | zero=>rfl
 | succ m ih=>simp[outD,ih]
def h0U :List Wd:=eightV.set 0 (gt eightV 0^^^16842784#32)
def h0K :List Wd:=eightV.set 0 ((gt eightV 0^^^16842784#32)^^^8192#32)
def sumS (s:List UInt8):List UInt8:=outD (blake h0U s) 32
def keyedS (k s:List UInt8):List UInt8:=outD (blake h0K (k++List.replicate 32 0++s)) 32
theorem sumS_len (s:List UInt8):(sumS s).length=32:=outD_len _ _
theorem keyedS_len (k s:List UInt8):(keyedS k s).length=32:=outD_len _ _
theorem hashTo_append (h0:List Wd)(p s:List UInt8)(q:Nat)(hq:64*q<=p.length):hashTo h0 (p++s) q=hashTo h0 p q:=by
 induction q with
 | zero=>rfl
 | succ q ih=>
  rw[hashTo,hashTo,ih (by omega)]
  congr 1
  rw[List.drop_append_of_le_length (by omega),List.take_append_of_le_length (by rw[List.length_drop];omega)]
theorem sum_nil :sumS [] = [105,33,122,48,121,144,128,148,225,17,33,208,66,53,74,124,31,85,182,72,44,161,165,30,27,37,13,253,30,208,238,249]:=by decide +kernel

theorem xorS_back (k nonce:List UInt8)(n:Wd)(data:List UInt8):xorS k nonce n (xorS k nonce n data)=data:=by
 apply ext_bt
 ·rw[xorS_len,xorS_len]
 ·intro i hi
  rw[xorS_len,xorS_len] at hi
  rw[xorS_at _ _ _ _ _ (by rw[xorS_len];exact hi),xorS_at _ _ _ _ _ hi,UInt8.xor_assoc,UInt8.xor_self,UInt8.xor_zero]

def lenB (n:Nat):List UInt8:=if _h:n<128 then [UInt8.ofNat n] else UInt8.ofNat (n%128+128)::lenB (n/128)
 termination_by n
 decreasing_by omega
theorem lenB_lt (n:Nat)(h:n<128):lenB n = [UInt8.ofNat n]:=by rw[lenB,dif_pos h]
theorem lenB_ge (n:Nat)(h:¬ n<128):lenB n=UInt8.ofNat (n%128+128)::lenB (n/128):=by rw[lenB,dif_neg h]
theorem lenB_len (n:Nat):(lenB n).length<=n+1:=by
 induction n using Nat.strongRecOn with
 | _ n ih=>
  by_cases h:n<128
  ·rw[lenB_lt n h];simp
  ·rw[lenB_ge n h,List.length_cons]
   have:=ih (n/128) (by omega)
   omega
def rowS (l:List (List UInt8)):List UInt8:=l.flatMap fun s=>lenB s.length++s
theorem rowS_len (l:List (List UInt8)):(rowS l).length<=2*l.flatten.length+l.length:=by
 unfold rowS
 induction l with
 | nil=>simp
 | cons s l ih=>
  rw[List.flatMap_cons,List.length_append,List.length_append,List.flatten_cons,List.length_append,List.length_cons]
  have:=lenB_len s.length
  omega
theorem rowS_snoc (l:List (List UInt8))(i:Nat)(h:i<l.length):rowS (l.take (i+1))=rowS (l.take i)++(lenB (l.getD i []).length++l.getD i []):=by
 unfold rowS
 rw[List.take_succ_eq_append_getElem h,List.flatMap_append]
 simp[h]
def cipherT :List UInt8:=[99,105,112,104,101,114]
def tagT :List UInt8:=[116,97,103]
def tagS (k head ahead:List UInt8):List UInt8:=keyedS (keyedS k tagT) (rowS [head,ahead])
theorem tagS_len (k head ahead:List UInt8):(tagS k head ahead).length=32:=keyedS_len _ _
def aheadS (k nonce data:List UInt8):List UInt8:=nonce++xorS (keyedS k cipherT) nonce 1 data
theorem aheadS_len (k nonce data:List UInt8)(hn:nonce.length=12):(aheadS k nonce data).length=data.length+12:=by unfold aheadS;rw[List.length_append,xorS_len,hn];omega
def sealS (k nonce head data:List UInt8):List UInt8:=aheadS k nonce data++tagS k head (aheadS k nonce data)
theorem sealS_len (k nonce head data:List UInt8)(hn:nonce.length=12):(sealS k nonce head data).length=data.length+44:=by unfold sealS;rw[List.length_append,aheadS_len k nonce data hn,tagS_len]
def nonceS (s:List UInt8):List UInt8:=s.take 12++List.replicate (12-s.length) 0
theorem nonceS_len (s:List UInt8):(nonceS s).length=12:=by unfold nonceS;rw[List.length_append,List.length_take,List.length_replicate];omega

def lenP :Nat->List UInt8->Except Int (Nat×List UInt8)
 | _,[]=>.error 4
 | k,c::r=>if c.toNat<128 then(if c.toNat=0/\0<k then .error 3 else .ok (c.toNat,r))
   else if k=3 then .error 3 else match lenP (k+1) r with
    | .ok (n,x)=>.ok (c.toNat%128+128*n,x)
    | .error e=>.error e
theorem lenP_row (n:Nat):∀ (k:Nat) (x:List UInt8),k<=3->n<128^(4-k)->(0<k->0<n)->lenP k (lenB n++x) = .ok (n,x):=by
 induction n using Nat.strongRecOn with
 | _ n ih=>
  intro k x hk hn h0
  by_cases h:n<128
  ·rw[lenB_lt n h]
   have e:(UInt8.ofNat n).toNat=n:=by simp;omega
   simp only[List.cons_append,List.nil_append,lenP,e]
   rw[if_pos h,if_neg (by omega)]
  ·rw[lenB_ge n h]
   have e:(UInt8.ofNat (n%128+128)).toNat=n%128+128:=by simp;omega
   have hk3:k≠3:=by rintro rfl;simp at hn;omega
   have h4:128^(4-k)=128^(4-(k+1))*128:=by
    rw[←Nat.pow_succ];congr 1;omega
   have hd:n/128<128^(4-(k+1)):=by rw[Nat.div_lt_iff_lt_mul (by decide)];omega
   simp only[List.cons_append,lenP,e]
   rw[if_neg (by omega),if_neg hk3,ih (n/128) (by omega) (k+1) x (by omega) hd (by omega)]
   simp only[Except.ok.injEq,Prod.mk.injEq,and_true]
   omega
theorem lenP_back :∀ (b:List UInt8) (k n:Nat) (x:List UInt8),k<=3->lenP k b = .ok (n,x)->b=lenB n++x/\n<128^(4-k)/\(0<k->0<n)
 | [],_,_,_,_,h=>by simp[lenP] at h
 | c::r,k,n,x,hk,h=>by
  have hc:=c.toNat_lt
  have h1:128^(4-3)<=128^(4-k):=Nat.pow_le_pow_right (by decide) (by omega)
  unfold lenP at h
  by_cases h8:c.toNat<128
  ·rw[if_pos h8] at h
   by_cases h0:c.toNat=0/\0<k
   ·rw[if_pos h0] at h;cases h
   ·rw[if_neg h0] at h
    injection h with h;injection h with ha hb
    subst ha hb
    refine⟨?_,by omega,by omega⟩
    rw[lenB_lt _ h8];simp
  ·rw[if_neg h8] at h
   by_cases hk3:k=3
   ·rw[if_pos hk3] at h;cases h
   ·rw[if_neg hk3] at h
    cases hl:lenP (k+1) r with
    | error e=>rw[hl] at h;cases h
    | ok p=>
     obtain⟨m,y⟩:=p
     rw[hl] at h
     injection h with h;injection h with ha hb
     obtain⟨h2,h3,h4⟩:=lenP_back r (k+1) m y (by omega) hl
     subst ha hb
     have hm:=h4 (by omega)
     have e4:128^(4-k)=128^(4-(k+1))*128:=by rw[←Nat.pow_succ];congr 1;omega
     refine⟨?_,by omega,by omega⟩
     rw[lenB_ge _ (by omega),show(c.toNat%128+128*m)/128=m by omega,List.cons_append,←h2]
     congr 1
     apply UInt8.toNat_inj.1
     simp;omega
theorem lenP_len {b:List UInt8}{k n:Nat}{x:List UInt8}(hk:k<=3)(h:lenP k b = .ok (n,x)):x.length<b.length:=by
 rw[(lenP_back b k n x hk h).1,List.length_append]
 have:0<(lenB n).length:=by
  by_cases h:n<128
  ·rw[lenB_lt n h];simp
  ·rw[lenB_ge n h];simp
 omega
def textsF :Nat->List UInt8->Except Int (List (List UInt8))
 | 0,_=>.ok []
 | f+1,b=>if b = [] then .ok [] else match lenP 0 b with
  | .error e=>.error e
  | .ok (n,x)=>if x.length<n then .error 4 else match textsF f (x.drop n) with
   | .error e=>.error e
   | .ok l=>.ok (x.take n::l)
theorem textsF_fuel :∀ (f g:Nat) (b:List UInt8),b.length<=f->b.length<=g->textsF f b=textsF g b
 | 0,g,b,hf,_=>by
  have:b = []:=List.eq_nil_of_length_eq_zero (by omega)
  subst this
  cases g <;> simp[textsF]
 | f+1,0,b,_,hg=>by
  have:b = []:=List.eq_nil_of_length_eq_zero (by omega)
  subst this
  simp[textsF]
 | f+1,g+1,b,hf,hg=>by
  unfold textsF
  by_cases hb:b = []
  ·rw[if_pos hb,if_pos hb]
  ·rw[if_neg hb,if_neg hb]
   cases hl:lenP 0 b with
   | error e=>rfl
   | ok p=>
    obtain⟨n,x⟩:=p
    have:=lenP_len (by omega) hl
    dsimp only
    rw[textsF_fuel f g (x.drop n) (by rw[List.length_drop];omega) (by rw[List.length_drop];omega)]
def textsS (b:List UInt8):Except Int (List (List UInt8)):=textsF b.length b
theorem textsS_nil :textsS [] = .ok []:=rfl
theorem textsS_step {b:List UInt8}(hb:b ≠ []):textsS b=match lenP 0 b with
  | .error e=>.error e
  | .ok (n,x)=>if x.length<n then .error 4 else match textsS (x.drop n) with
   | .error e=>.error e
   | .ok l=>.ok (x.take n::l):=by
 unfold textsS
 cases b with
 | nil=>exact absurd rfl hb
 | cons c r=>
  rw[List.length_cons,textsF,if_neg hb]
  cases hl:lenP 0 (c::r) with
  | error e=>rfl
  | ok p=>
   obtain⟨n,x⟩:=p
   have:=lenP_len (by omega) hl
   rw[List.length_cons] at this
   dsimp only
   rw[textsF_fuel r.length (x.drop n).length (x.drop n) (by rw[List.length_drop];omega) (Nat.le_refl _)]
theorem rowS_cons (s:List UInt8)(l:List (List UInt8)):rowS (s::l)=lenB s.length++(s++rowS l):=by unfold rowS;rw[List.flatMap_cons,List.append_assoc]
theorem rowS_nil :rowS [] = []:=rfl
theorem lenB_ne (n:Nat):lenB n ≠ []:=by
 by_cases h:n<128
 ·rw[lenB_lt n h];simp
 ·rw[lenB_ge n h];simp
theorem textsS_row :∀ l:List (List UInt8),(∀ s∈l,s.length<2^28)->textsS (rowS l) = .ok l
 | [],_=>rfl
 | s::l,h=>by
  have hs:=h s (by simp)
  rw[rowS_cons,textsS_step (by simp[lenB_ne]),lenP_row s.length 0 _ (by omega) (by simpa using hs) (by omega)]
  dsimp only
  rw[if_neg (by rw[List.length_append];omega),List.drop_left,List.take_left,textsS_row l (fun x hx=>h x (by simp[hx]))]
theorem textsS_back :∀ (f:Nat) (b:List UInt8) (l:List (List UInt8)),b.length<=f->textsS b = .ok l->rowS l=b ∧ ∀ s∈l,s.length<2^28
 | 0,b,l,hf,h=>by
  have:b = []:=List.eq_nil_of_length_eq_zero (by omega)
  subst this
  rw[textsS_nil] at h
  injection h with h
  subst h
  exact⟨rfl,by simp⟩
 | f+1,b,l,hf,h=>by
  by_cases hb:b = []
  ·subst hb
   rw[textsS_nil] at h
   injection h with h
   subst h
   exact⟨rfl,by simp⟩
  ·rw[textsS_step hb] at h
   cases hl:lenP 0 b with
   | error e=>rw[hl] at h;cases h
   | ok p=>
    obtain⟨n,x⟩:=p
    rw[hl] at h
    dsimp only at h
    by_cases hn:x.length<n
    ·rw[if_pos hn] at h;cases h
    ·rw[if_neg hn] at h
     have hlen:=lenP_len (by omega) hl
     obtain⟨h1,h2,_⟩:=lenP_back b 0 n x (by omega) hl
     cases ht:textsS (x.drop n) with
     | error e=>rw[ht] at h;cases h
     | ok l'=>
      rw[ht] at h
      injection h with h
      subst h
      obtain⟨h3,h4⟩:=textsS_back f (x.drop n) l' (by rw[List.length_drop];omega) ht
      have hx:(x.take n).length=n:=by rw[List.length_take];omega
      refine⟨?_,?_⟩
      ·rw[rowS_cons,hx,h3,List.take_append_drop,←h1]
      ·intro s hs
       rcases List.mem_cons.1 hs with rfl | hs
       ·rw[hx];simpa using h2
       ·exact h4 s hs
theorem i64_or_nat (a b:Nat)(ha:a<9223372036854775808)(hb:b<9223372036854775808):bits .or .i64 (a:Int) (b:Int)=((a|||b:Nat):Int):=by
 have hx:a|||b<2^63:=Nat.or_lt_two_pow (by omega) (by omega)
 show IntKind.i64.wrap ((BitVec.ofInt 64 (a:Int)|||BitVec.ofInt 64 (b:Int)).toNat:Int)=_
 have e:∀ c:Nat,c<9223372036854775808->(BitVec.ofInt 64 (c:Int)).toNat=c:=by
  intro c hc
  rw[BitVec.toNat_ofInt]
  omega
 rw[BitVec.toNat_or,e a ha,e b hb,IntKind.wrap_i64]
 omega
theorem and127u8 (c:UInt8):bits .and .u8 (c.toNat:Int) 127=((c.toNat%128:Nat):Int):=by
 have h:∀ n:Nat,n<256->bits .and .u8 (n:Int) 127=((n%128:Nat):Int):=by decide +kernel
 exact h _ c.toNat_lt
theorem shl7 (m i:Nat)(hm:m<128)(hi:i<=3):IntKind.i64.wrap ((m:Int)*2^((7*i:Nat):Int).toNat)=((m*128^i:Nat):Int):=by
 rw[IntKind.wrap_i64]
 have:i=0\/i=1\/i=2\/i=3:=by omega
 rcases this with rfl | rfl | rfl | rfl <;> simp <;> omega
theorem or7 (n m i:Nat)(hm:m<128)(hn:n<128^i)(hi:i<=3):bits .or .i64 (n:Int) ((m*128^i:Nat):Int)=((n+m*128^i:Nat):Int):=by
 have e:(128:Nat)^i=2^(7*i):=by rw[Nat.pow_mul]
 have hb:(128:Nat)^i<=128^3:=Nat.pow_le_pow_right (by decide) hi
 have h2:m*128^i<=127*128^3:=Nat.mul_le_mul (by omega) hb
 rw[i64_or_nat n _ (by omega) (by omega)]
 congr 1
 have h3:=Nat.shiftLeft_add_eq_or_of_lt (i:=7*i) (b:=n) (by rw[←e];exact hn) m
 rw[Nat.shiftLeft_eq,←e] at h3
 rw[Nat.or_comm,←h3,Nat.add_comm]
def lenAcc (i n:Nat):Except Int (Nat×List UInt8)->Except Int (Nat×List UInt8)
 | .ok (m,x)=>.ok (n+m*128^i,x)
 | .error e=>.error e
theorem lenAcc_zero (r:Except Int (Nat×List UInt8)):lenAcc 0 0 r=r:=by
 cases r with
 | error e=>rfl
 | ok p=>obtain⟨m,x⟩:=p;simp[lenAcc]
theorem drop_bt (b:List UInt8)(i:Nat)(h:i<b.length):b.drop i=bt b i::b.drop (i+1):=by
 rw[List.drop_eq_getElem_cons h];simp[bt,h]
theorem lenP_cons (k:Nat)(c:UInt8)(r:List UInt8):lenP k (c::r)=if c.toNat<128 then(if c.toNat=0/\0<k then .error 3 else .ok (c.toNat,r)) else if k=3 then .error 3 else match lenP (k+1) r with
  | .ok (n,x)=>.ok (c.toNat%128+128*n,x)
  | .error e=>.error e:=by rfl
theorem lenAcc_step (i n:Nat)(c:UInt8)(r:List UInt8)(hc:¬ c.toNat<128)(hi:i≠3):lenAcc i n (lenP i (c::r))=lenAcc (i+1) (n+c.toNat%128*128^i) (lenP (i+1) r):=by
 rw[lenP_cons,if_neg hc,if_neg hi]
 cases lenP (i+1) r with
 | error e=>rfl
 | ok p=>
  obtain⟨m,x⟩:=p
  simp only[lenAcc,Except.ok.injEq,Prod.mk.injEq,and_true]
  rw[Nat.add_mul,Nat.pow_succ,Nat.add_assoc,Nat.mul_comm 128 m,Nat.mul_assoc,Nat.mul_comm 128 (128^i)]
def lenR (b:List UInt8):Value:=match lenP 0 b with
 | .ok (n,x)=>.tuple #[.int .i64 (n:Int),.int .i64 ((b.length-x.length:Nat):Int),.int .i64 0]
 | .error e=>.tuple #[.int .i64 0,.int .i64 0,.int .i64 e]
theorem lenP_err :∀ (b:List UInt8) (k:Nat) (e:Int),lenP k b = .error e->e=3\/e=4
 | [],_,e,h=>by simp[lenP] at h;omega
 | c::r,k,e,h=>by
  rw[lenP_cons] at h
  split at h
  ·split at h
   ·injection h with h;omega
   ·cases h
  ·split at h
   ·injection h with h;omega
   ·cases hl:lenP (k+1) r with
    | ok p=>rw[hl] at h;cases h
    | error e2=>rw[hl] at h;injection h with h;subst h;exact lenP_err r (k+1) _ hl
theorem lenP_drop {b x:List UInt8}{n:Nat}(h:lenP 0 b = .ok (n,x)):b.drop (b.length-x.length)=x/\x.length<b.length/\n<2^28:=by
 obtain⟨h1,h2,_⟩:=lenP_back b 0 n x (by omega) h
 refine⟨?_,lenP_len (by omega) h,by simpa using h2⟩
 rw[h1,List.length_append,Nat.add_sub_cancel,List.drop_left]
def txAcc (d:List (List UInt8)):Except Int (List (List UInt8))->Except Int (List (List UInt8))
 | .ok l=>.ok (d++l)
 | .error e=>.error e
theorem txAcc_nil (r:Except Int (List (List UInt8))):txAcc [] r=r:=by cases r <;> rfl
theorem txAcc_snoc (d:List (List UInt8))(s:List UInt8)(r:Except Int (List (List UInt8))):txAcc d (match r with | .error e=>.error e | .ok l=>.ok (s::l))=txAcc (d ++ [s]) r:=by
 cases r with
 | error e=>rfl
 | ok l=>simp[txAcc]
theorem nlen (b:List UInt8)(w:World)(hb:b.length<2^47):RV 154 #[sv b] w (lenR b):=by
 refine enter Tryz.func154 ?_
 refine r3 .as .as .as (r1 .as (se (r3 .mv .ln .mv (bl (lo2 (fun i n=>i<=b.length/\i<=3/\n<128^i/\lenP 0 b=lenAcc i n (lenP i (b.drop i))) (fun i n=>b.length-i) (fun i n=>[(0,sv b),(5,i6 (n:Int)),(9,i6 (b.length:Int)),(10,i6 (i:Int))]) (fun i n=>[]) (fun i n=>[]) 0 0 ⟨Nat.zero_le _,by omega,by simp,by rw[List.drop_zero,lenAcc_zero]⟩ su (fun i n ⟨hi,hi3,hn,hR⟩=>?_))))))
 refine r1 .lss (se (sd (fun hlt=>?_) (fun hlt=>?_)))
 ·have hlt2:i<b.length:=by omega
  have hd:=drop_bt b i hlt2
  have hc8:=(bt b i).toNat_lt
  refine sk (nN (se (bl (r2 .mv .as (rg (p2 .mv .mv (pp (PR.sa (i:=i)) (p1 .as (en (se (rg (p3 .mv .eqi .mv (gTt (hp:=PR.mv) ?_)))))))))))))
  refine gTt (hp:=PR.geq) ?_
  refine p1 .pand (en (cs (fun h1=>?_) (fun h1=>?_)))
  ·simp at h1
   have h3:i=3:=by omega
   subst h3
   rw[show lenR b = .tuple #[i6 0,i6 0,i6 3] from by unfold lenR;rw[hR,hd,lenP_cons,if_neg (by omega),if_pos rfl];rfl]
   exact r3 .as .as .as (rt (nR (bR (nR (nR (bR (nR qv)))))))
  ·have h1:¬ (i=3/\128<=(bt b i).toNat):=fun⟨q1,q2⟩=>by
    rw[decide_eq_true (by omega),decide_eq_true (by omega)] at h1
    cases h1
   refine sk ?_
   refine nN (rg (p2 .mv .mv (pp (PR.and (((bt b i).toNat%128:Nat):Int) (h:=and127u8 _)) (pp (PR.cn (((bt b i).toNat%128:Nat):Int)) (p1 .mv (pp (PR.ml ((7*i:Nat):Int)) (pp (PR.shl (((bt b i).toNat%128*128^i:Nat):Int) (h0:=by show(0:Int)<=_/\_<=(64:Int);omega) (h:=shl7 _ i (by omega) hi3)) (pp (PR.or ((n+(bt b i).toNat%128*128^i:Nat):Int) (h:=or7 n _ i (by omega) hn hi3)) (p1 .as (en (se (r2 .mv .geq (sd (fun h8=>?_) (fun h8=>?_))))))))))))))
   ·skip
    exact xt (nX (bH (nN (rg0 (pp (PR.ad ((i+1:Nat):Int)) (p1 .mv (en0 (nN (bk2 (i+1) (n+(bt b i).toNat%128*128^i) ⟨by omega,by omega,by rw[Nat.pow_succ];have:(bt b i).toNat%128*128^i<=127*128^i:=Nat.mul_le_mul_right _ (by omega);omega,by rw[hR,hd,lenAcc_step i n _ _ (by omega) (by omega)]⟩ (by omega) su)))))))))
   ·have h8:(bt b i).toNat<128:=by omega
    refine sk (nN (se (rg (p3 .mv .eqi .mv (gTt (hp:=PR.mv) ?_)))))
    refine gTt (hp:=PR.gtr) ?_
    refine p1 .pand (en (cs (fun h0=>?_) (fun h0=>?_)))
    ·simp at h0
     rw[show lenR b = .tuple #[i6 0,i6 0,i6 3] from by unfold lenR;rw[hR,hd,lenP_cons,if_pos h8,if_pos (by omega)];rfl]
     exact r3 .as .as .as (rt (nR (bR (nR (nR (bR (nR qv)))))))
    ·have h0:¬ ((bt b i).toNat=0/\0<i):=fun⟨q1,q2⟩=>by
      rw[decide_eq_true (by omega),decide_eq_true (by omega)] at h0
      cases h0
     have hm:(bt b i).toNat%128=(bt b i).toNat:=Nat.mod_eq_of_lt h8
     rw[hm]
     rw[show lenR b = .tuple #[i6 ((n+(bt b i).toNat*128^i:Nat):Int),i6 ((i+1:Nat):Int),i6 0] from by
      unfold lenR
      rw[hR,hd,lenP_cons,if_pos h8,if_neg h0]
      simp only[lenAcc,List.length_drop]
      rw[show b.length-(b.length-(i+1))=i+1 by omega]]
     exact sk (nN (rg (p2 .mv .mv (pp (PR.ad ((i+1:Nat):Int)) (p3 .as .as .as (en (rt (bR (nR (nR (bR (nR qv))))))))))))
 ·have hie:i=b.length:=by omega
  rw[show lenR b = .tuple #[i6 0,i6 0,i6 4] from by unfold lenR;rw[hR,hie,List.drop_length];rfl]
  exact xt (nX (nX (bH (nN (r3 .as .as .as (rt qv))))))
def ntT (b:List UInt8):Tele:=match textsS b with
 | .ok l=>.row 9 1 l.length (txs l) fun v=>.ret (.tuple #[v,.int .i64 0])
 | .error e=>.ret (.tuple #[.slice none 0 0,.int .i64 e])
theorem ntT_ok {b:List UInt8}{l:List (List UInt8)}(h:textsS b = .ok l):ntT b = .row 9 1 l.length (txs l) fun v=>.ret (.tuple #[v,i6 0]):=by unfold ntT;rw[h]
theorem ntT_err {b:List UInt8}{e:Int}(h:textsS b = .error e):ntT b = .ret (.tuple #[nv,i6 e]):=by unfold ntT;rw[h]
theorem ntexts {b:List UInt8}{w:World}(hb:b.length<2^42):RT 94 #[sv b] w (ntT b):=by
 refine enter Tryz.func94 ?_
 refine r2 .as .as (nr 9 1 ?_)
 refine r1 .as (se (bl (lo3 (fun d r v=>d.length+r.length<=b.length/\textsS b=txAcc d (textsS r)) (fun d r v=>r.length) (fun d r v=>[(0,sv r),(4,v)]) (fun d r v=>[]) (fun d r v=>[⟨v,9,1,d.length,txs d⟩]) [] b (nv) ⟨by simp,by rw[txAcc_nil]⟩ su (fun d r v ⟨hdl,hR⟩=>?_))))
 refine se (r3 .mv .ln .gtr (sd (fun hlt=>?_) (fun hlt=>?_)))
 ·skip
  refine sk (nN (bl ?_))
  have hne:r ≠ []:=fun q=>by rw[q] at hlt;simp at hlt
  have hst:=textsS_step hne
  cases hl:lenP 0 r with
  | error e=>
   have hlr:lenR r = .tuple #[i6 0,i6 0,i6 e]:=by unfold lenR;rw[hl]
   have hee:=lenP_err _ _ _ hl
   rw[hl] at hst
   rw[ntT_err (e:=e) (by rw[hR,hst];rfl)]
   exact rg (p1 .mv (cl (fun _ _ h=>hlr▸nlen r _ (by omega)) (p5 .mv .ext .ext .ext .as (p2 .as .as (en (se (r2 .mv .nei (ct (hb:=(decide_eq_true (by omega))) (r3 .mv .as .as (rt (nR (bR (nR (bR (nR (et []))))))))))))))))
  | ok p=>
   obtain⟨k,x⟩:=p
   have hlr:lenR r = .tuple #[i6 (k:Int),i6 ((r.length-x.length:Nat):Int),i6 0]:=by unfold lenR;rw[hl]
   obtain⟨hdr,hxl,hk28⟩:=lenP_drop hl
   rw[hl] at hst
   dsimp only at hst
   refine rg (p1 .mv (cl (fun _ _ h=>hlr▸nlen r _ (by omega)) (p5 .mv .ext .ext .ext .as (p2 .as .as ?_))))
   refine en (se (r2 .mv .nei (cf (sk (nN (rg (p2 .mv .mv (pp ((PR.sd (i:=r.length-x.length)).to (by rw[hdr])) (p1 .as (en (se (r4 .mv .ln .mv .lss (sd (fun hk=>?_) (fun hk=>?_))))))))))))))
   ·rw[if_pos (by omega)] at hst
    rw[ntT_err (e:=4) (by rw[hR,hst];rfl)]
    exact r2 .as .as (rt (nR (bR (nR (bR (nR (et [])))))))
   ·rw[if_neg (by omega)] at hst
    refine sk (nN (rg (p3 .mv .mv .mv (pp (PR.st (i:=k)) (bs #[sv (x.take k)] (fun g0=>?_))))))
    refine ap 0 (fun v0=>?_)
    refine p1 .as (en (rg0 (p2 .mv .mv (pp (PR.sd (i:=k)) (p1 .as (en0 (bN (nN (rc 0 (d ++ [x.take k]).length (txs (d ++ [x.take k])) (hn:=by simp) (hx:=by simp[txs,tx]) (h:=?_))))))))))
    exact bk3 (d ++ [x.take k]) (x.drop k) v0 ⟨by simp;omega,by rw[hR,hst];exact txAcc_snoc d (x.take k) _⟩ (by rw[List.length_drop];omega) su
 ·have hr:r = []:=List.eq_nil_of_length_eq_zero (by omega)
  rw[ntT_ok (l:=d) (by rw[hR,hr];simp[textsS_nil,txAcc])]
  exact xt (nX (nX (bH (nN (r3 .mv .as .as (rt (et [0])))))))
def txL (b:List UInt8):List (List UInt8):=match textsS b with
 | .ok l=>l
 | .error _=>[]
def txE (b:List UInt8):Int:=match textsS b with
 | .ok _=>0
 | .error e=>e
theorem ntextsU {b:List UInt8}{w:World}(hb:b.length<2^42):RT 94 #[sv b] w (.row 9 1 (txL b).length (txs (txL b)) fun v=>.ret (.tuple #[v,i6 (txE b)])):=by
 refine(ntexts (w:=w) hb).mono fun e w' ⟨u,h1,h2,h3⟩=>⟨u,h1,?_,h3⟩
 unfold ntT at h2
 unfold txL txE
 cases h:textsS b with
 | ok l=>rw[h] at h2;exact h2
 | error e=>
  rw[h] at h2
  rw[show u=_ from h2]
  exact T1 ⟨by simp,.inl ⟨rfl,rfl⟩⟩ (by simp) T0
theorem nint {s:List UInt8}{w:World}(hG:GL w)(hs:s.length<=2^47):RV 166 #[sv s] w (.tuple #[i6 ((intS s).getD 0),.bool (intS s).isSome]):=by
 cases h:Lib.parseIntB 64 s with
 | ok v=>
  have h2:=Lib.parseIntB_bounds h
  exact nint_ok hG hs h (by simp at h2;omega)
 | range=>
  have e:intS s=none:=by unfold intS;rw[h]
  rw[e]
  exact nint_bad (v:=0) hG hs (fun v=>by rw[h];intro q;cases q)
 | _=>
  have e:intS s=none:=by unfold intS;rw[h]
  rw[e]
  exact nint_bad (v:=0) hG hs (fun v=>by rw[h];intro q;cases q)
def SumAt (w:World):Prop:=∀ (w2:World) (v:Value) (l:List (List UInt8)),Below w.heap.size w w2->Sl w2 v 1 l.length (txs l)->l.flatten.length<2^60->l.length<2^60->RV 95 #[v] w2 (.agg (cells8 (sumS l.flatten)))
theorem txs_at {l:List (List UInt8)}{i:Nat}(h:i<l.length):(txs l)[i*1]?=some (sv (l.getD i [])):=by
 rw[Nat.mul_one,List.getElem?_map,List.getD_eq_getElem?_getD,List.getElem?_eq_getElem h];rfl
abbrev hibs :List UInt8:=[104,105,98,115]
def fitL (i:Nat)(l:List (List UInt8)):Option Fit :=
 if(intS (l.getD 2 [])).isSome=true/\0<=(intS (l.getD 2 [])).getD 0/\(intS (l.getD 2 [])).getD 0<=65536/\l.getD 3 []=Lib.itoa ((i+1:Nat):Int) then
  (if(l.getD 4 []).length=32/\l.getD 5 []=sumS (l.getD 6 [])/\((l.getD 6 []).length:Int)=rowsP ((intS (l.getD 2 [])).getD 0) then some ⟨(intS (l.getD 2 [])).getD 0,l.getD 4 [],((i+1:Nat):Int),l.getD 6 []⟩ else none) else none
def fitS (nm:List UInt8)(i:Nat)(b:List UInt8):Option Fit :=
 if txE b=0/\(txL b).length=7/\(txL b).getD 0 []=hibs/\(txL b).getD 1 []=nm then fitL i (txL b) else none
def fitV :Option Fit->Value
 | none=>.tuple #[.agg #[.int .i64 0,.string ⟨#[]⟩,.int .i64 0,.string ⟨#[]⟩],.bool false]
 | some f=>.tuple #[.agg (fitC f).toArray,.bool true]
theorem spfit {nm b:List UInt8}{i:Nat}{w:World}(hb:b.length<2^42)(hG:GL w)(HS:SumAt w)(hi:i<2^40)(hl7:∀ k,((txL b).getD k []).length<=2^46):RV 111 #[sv nm,i6 (i:Int),sv b] w (fitV (fitS nm i b)):=by
 refine enter Tryz.func111 ?_
 refine rg (aa Tryz.zeroValue213 (fun g0=>p1 .as (en (rg (p1 .mv (ce (fun _ _ h=>ntextsU hb) (fun v=>?_)))))))
 generalize hE:txE b=E
 generalize hL:txL b=l at hl7 ⊢
 refine p5 .mv .ext .ext .as .as (en (se (rg (p3 .mv .nei .mv (gFf (hp:=PR.mv) ?_)))))
 refine gFf (hp:=PR.gb fun hg=>PR.lr) ?_
 refine gFf (hp:=PR.nei) ?_
 refine p2 .por .mv (gFf (hp:=PR.mv) ?_)
 refine gFf (hp:=PR.gb fun hg=>PR.ix (i:=0) (hi:=by simp at hg;omega)) ?_
 refine gFf (hp:=PR.gb fun hg=>PR.lp (v2:=sv (l.getD 0 [])) (txs_at (l:=l) (i:=0) (by simp at hg;omega))) ?_
 refine gFf (hp:=PR.nes) ?_
 refine p2 .por .mv (gFf (hp:=PR.mv) ?_)
 refine gFf (hp:=PR.gb fun hg=>PR.ix (i:=1) (hi:=by simp at hg;omega)) ?_
 refine gFf (hp:=PR.gb fun hg=>PR.lp (v2:=sv (l.getD 1 [])) (txs_at (l:=l) (i:=1) (by simp at hg;omega))) ?_
 refine gFf (hp:=PR.mv) ?_
 refine gFf (hp:=PR.nes) ?_
 refine p1 .por (en (cs (fun h1=>?_) (fun h1=>?_)))
 ·have hf:fitS nm i b=none:=by
   unfold fitS
   rw[if_neg]
   rintro⟨q1,q2,q3,q4⟩
   rw[hE] at q1;rw[hL] at q2 q3 q4
   simp only[Bool.or_eq_true,decide_eq_true_eq] at h1
   rcases h1 with((h1 | h1) | h1) | h1
   ·exact h1 q1
   ·exact h1 (by omega)
   ·exact h1 q3
   ·exact h1 q4
  rw[hf]
  refine rg (pp (PR.bd #[i6 0,.string ⟨#[]⟩,i6 0,.string ⟨#[]⟩]) (sw 0 ?_))
  exact p1 .as (en (rt (nR qv)))
 ·simp only[Bool.or_eq_false_iff,decide_eq_false_iff_not,ne_eq,Decidable.not_not] at h1
  have hq:E=0/\l.length=7/\l.getD 0 []=hibs/\l.getD 1 []=nm:=⟨h1.1.1.1,by omega,h1.1.2,h1.2⟩
  have hf:fitS nm i b=fitL i l:=by unfold fitS;rw[hE,hL,if_pos hq]
  rw[hf]
  unfold fitL
  have h7:=hq.2.1
  generalize hN:(intS (l.getD 2 [])).getD 0=N
  generalize hok:(intS (l.getD 2 [])).isSome=ok
  refine sk (nN (rg (p1 .mv (pp (PR.ix (i:=2)) (pp (PR.lp (v2:=sv (l.getD 2 [])) (txs_at (l:=l) (i:=2) (by omega))) (cl (fun _ _ h=>by have q:=nint (s:=l.getD 2 []) (hG.below h.m.below) (by have:=hl7 2;omega);rw[hN,hok] at q;exact q) (p5 .mv .ext .ext .as .as (en (se (dr [_,_,_,_,_,_,_,_,_,_,_,_,_,_,_,_,_,_,_] [] [] [] [64] trivial (fun Bs=>⟨kv (oP (PR.mv ez)),kv (oP (PR.not ed)),kv (oP (PR.mv ed)),kv (oF (hp:=PR.mv (EV.u ez))),kv (oF (hp:=PR.lss (EV.b ed) EV.k)),kv (oP (PR.por ed ed)),kv (oP (PR.mv ed)),kv (oF (hp:=PR.mv (EV.u ez))),kv (oF (hp:=PR.gtr (EV.b ed) EV.k)),kv (oP (PR.por ed ed)),kv (oP (PR.mv ed)),kv (oF (hp:=PR.mv (EV.u ez))),kv (oF (hp:=PR.ix (i:=3))),kv (oF (hp:=PR.lp (v2:=sv (l.getD 3 [])) (txs_at (l:=l) (i:=3) (by omega)))),kv (oF (hp:=PR.mv (EV.u ez))),kv (oF (hp:=PR.ad ((i+1:Nat):Int))),kv (oGC (fun _ _ _ h=>ndec (n:=((i+1:Nat):Int)) (hG.below h.low) (by omega))),kv (oF (hp:=PR.nes (EV.b ed) (EV.b ed))),kv (oP (PR.por ed ed)),trivial⟩) ?_))))))))))
  refine cs (fun h2=>?_) (fun h2=>?_)
  ·simp only[Bool.or_eq_true,decide_eq_true_eq,Bool.not_eq_true'] at h2
   have hn:¬ (ok=true/\0<=N/\N<=65536/\(l.getD 3 [])=Lib.itoa ((i+1:Nat):Int)):=by
    rintro⟨q1,q2,q3,q4⟩
    rcases h2 with((h2 | h2) | h2) | h2
    ·rw[q1] at h2;cases h2
    ·omega
    ·omega
    ·exact h2 q4
   rw[if_neg hn]
   refine rg (pp (PR.bd #[i6 0,.string ⟨#[]⟩,i6 0,.string ⟨#[]⟩]) (sw 0 ?_))
   exact p1 .as (en (rt (nR qv)))
  ·simp only[Bool.or_eq_false_iff,decide_eq_false_iff_not,ne_eq,Decidable.not_not,Bool.not_eq_false'] at h2
   have hq2:ok=true/\0<=N/\N<=65536/\(l.getD 3 [])=Lib.itoa ((i+1:Nat):Int):=⟨h2.1.1.1,by omega,by omega,h2.2⟩
   rw[if_pos hq2]
   refine sk (nN ?_)
   have HS7:∀ w2 v,Below w.heap.size w w2->Sl w2 v 1 1 (txs [l.getD 6 []])->RV 95 #[v] w2 (.agg (cells8 (sumS (l.getD 6 [])))):=fun w2 v h1 h2=>by
    have q:=HS w2 v [l.getD 6 []] h1 h2 (by have:=hl7 6;simp only[List.flatten_cons,List.flatten_nil,List.append_nil];omega) (by show 1<2^60;decide)
    rw[List.flatten_cons,List.flatten_nil,List.append_nil] at q
    exact q
   have hDl:=sumS_len (l.getD 6 [])
   generalize sumS (l.getD 6 [])=D at *
   have hDs:(cells8 D).size=32:=by simp[cells8,hDl]
   have hD1:=cells8_one D
   refine rg (p1 .mv (pp (PR.ix (i:=6)) (pp (PR.lp (v2:=sv (l.getD 6 [])) (txs_at (l:=l) (i:=6) (by omega))) (bs #[sv (l.getD 6 [])] (fun g1=>?_)))))
   refine cl (fun _ _ h=>HS7 _ _ h.m.below (blkSl (h.m.at 0 rfl) rfl)) (aa Tryz.zeroValue65 (fun g2=>sw 0 ?_))
   refine en (se (dr [_,_,_,_,_,_,_,_,_,_,_,_,_,_,_,_,_,_,_,_,_,_] [] [] [] [92] trivial (fun Bs=>⟨kv (oP (PR.mv ez)),kv (oP (PR.ix (i:=4))),kv (oP (PR.lp (v2:=sv (l.getD 4 [])) (txs_at (l:=l) (i:=4) (by omega)))),kv (oP (PR.ln ed)),kv (oP (PR.nei ed EV.k)),kv (oP (PR.mv ed)),kv (oF (hp:=PR.mv (EV.u ez))),kv (oF (hp:=PR.ix (i:=5))),kv (oF (hp:=PR.lp (v2:=sv (l.getD 5 [])) (txs_at (l:=l) (i:=5) (by omega)))),kv (oF (hp:=PR.sA)),kv (oF (hp:=PR.bB (l:=D))),kv (oF (hp:=PR.nes (EV.b ed) (EV.b ed))),kv (oP (PR.por ed ed)),kv (oP (PR.mv ed)),kv (oF (hp:=PR.mv (EV.u ez))),kv (oF (hp:=PR.ix (i:=6))),kv (oF (hp:=PR.lp (v2:=sv (l.getD 6 [])) (txs_at (l:=l) (i:=6) (by omega)))),kv (oF (hp:=PR.ln)),kv (oF (hp:=PR.mv (EV.u ez))),kv (oGC (fun _ _ _ _=>prows N _ (by have:=hq2.2.2.1;omega))),kv (oF (hp:=PR.nei (EV.b ed) (EV.b ed))),kv (oP (PR.por ed ed)),trivial⟩) ?_))
   refine cs (fun h3=>?_) (fun h3=>?_)
   ·simp only[Bool.or_eq_true,decide_eq_true_eq] at h3
    have hn:¬ ((l.getD 4 []).length=32/\(l.getD 5 [])=D/\((l.getD 6 []).length:Int)=rowsP N):=by
     rintro⟨q1,q2,q3⟩
     rcases h3 with(h3 | h3) | h3
     ·omega
     ·exact h3 q2
     ·exact h3 q3
    rw[if_neg hn]
    refine rg (pp (PR.bd #[i6 0,.string ⟨#[]⟩,i6 0,.string ⟨#[]⟩]) (sw 2 ?_))
    exact p1 .as (en (rt (nR qv)))
   ·simp only[Bool.or_eq_false_iff,decide_eq_false_iff_not,ne_eq,Decidable.not_not] at h3
    have hq3:(l.getD 4 []).length=32/\(l.getD 5 [])=D/\((l.getD 6 []).length:Int)=rowsP N:=⟨by omega,h3.1.2,h3.2⟩
    rw[if_pos hq3]
    refine sk (nN (dr [_,_,_,_,_,_,_,_,_,_,_,.any,_] [] [⟨11,_,_,_,0,.val (.agg #[i6 N,sv (l.getD 4 []),i6 ((i+1:Nat):Int),sv (l.getD 6 [])])⟩] [2] [7] ⟨rfl,trivial⟩ (fun Bs=>⟨kv (oP (PR.mv ez)),kv (oP (PR.mv ez)),kv (oP (PR.ix (i:=4))),kv (oP (PR.lp (v2:=sv (l.getD 4 [])) (txs_at (l:=l) (i:=4) (by omega)))),kv (oP (PR.mv ez)),kv (oP (PR.ad ((i+1:Nat):Int))),kv (oP (PR.mv ez)),kv (oP (PR.ix (i:=6))),kv (oP (PR.lp (v2:=sv (l.getD 6 [])) (txs_at (l:=l) (i:=6) (by omega)))),kv (oP (PR.bd #[i6 ((i+1:Nat):Int),sv (l.getD 6 [])])),kv (oP (PR.bd #[i6 N,sv (l.getD 4 []),i6 ((i+1:Nat):Int),sv (l.getD 6 [])])),ks 0,kv (oP (PR.as EV.k)),trivial⟩) ?_))
    exact rt qv
section
open Go.Shelf Go.RowKit
def bren :Go.Shelf.Ren:=⟨fun | 165=>122 | 166=>124 | 167=>123 | 169=>61 | 240=>121 | 241=>175 | 276=>174 | 277=>233 | n=>n,fun | 0=>0 | 3=>3 | 4=>4 | 5=>5 | 9=>9 | 20=>20 | 37=>75 | 70=>138 | 72=>140 | 75=>144 | 80=>147 | 127=>228 | 164=>298 | n=>n,fun | n=>n⟩
theorem blays165 :Go.Proofs.Lays.n165 Tryz.prog bren:={
 mixed:=by kernel_rfl
 f165:=Tryz.func122.trans (congrArg some (by kernel_rfl))
 f240:=Tryz.func121.trans (congrArg some (by kernel_rfl))
 f241:=Tryz.func175.trans (congrArg some (by kernel_rfl))
 f276:=Tryz.func174.trans (congrArg some (by kernel_rfl))
 f277:=Tryz.func233.trans (congrArg some (by kernel_rfl))
 t0:=Tryz.underlying0
 a0:=Tryz.isAgg0
 z0:=Tryz.sizeOf0
 v0:=Tryz.zeroValue0
 t3:=Tryz.underlying3
 a3:=Tryz.isAgg3
 z3:=Tryz.sizeOf3
 v3:=Tryz.zeroValue3
 t4:=Tryz.underlying4
 a4:=Tryz.isAgg4
 z4:=Tryz.sizeOf4
 v4:=Tryz.zeroValue4
 t9:=Tryz.underlying9
 a9:=Tryz.isAgg9
 z9:=Tryz.sizeOf9
 v9:=Tryz.zeroValue9
 t20:=Tryz.underlying20
 a20:=Tryz.isAgg20
 z20:=Tryz.sizeOf20
 v20:=Tryz.zeroValue20
 t37:=Tryz.underlying75
 a37:=Tryz.isAgg75
 z37:=Tryz.sizeOf75
 v37:=Tryz.zeroValue75
 t70:=Tryz.underlying138
 a70:=Tryz.isAgg138
 z70:=Tryz.sizeOf138
 v70:=Tryz.zeroValue138
 t72:=Tryz.underlying140
 a72:=Tryz.isAgg140
 z72:=Tryz.sizeOf140
 v72:=Tryz.zeroValue140
 t164:=Tryz.underlying298
 a164:=Tryz.isAgg298
 z164:=Tryz.sizeOf298
 v164:=Tryz.zeroValue298 }
theorem blays166 :Go.Proofs.Lays.n166 Tryz.prog bren:={
 mixed:=by kernel_rfl
 f166:=Tryz.func124.trans (congrArg some (by kernel_rfl))
 f240:=Tryz.func121.trans (congrArg some (by kernel_rfl))
 f276:=Tryz.func174.trans (congrArg some (by kernel_rfl))
 t0:=Tryz.underlying0
 a0:=Tryz.isAgg0
 z0:=Tryz.sizeOf0
 v0:=Tryz.zeroValue0
 t3:=Tryz.underlying3
 a3:=Tryz.isAgg3
 z3:=Tryz.sizeOf3
 v3:=Tryz.zeroValue3
 t4:=Tryz.underlying4
 a4:=Tryz.isAgg4
 z4:=Tryz.sizeOf4
 v4:=Tryz.zeroValue4
 t9:=Tryz.underlying9
 a9:=Tryz.isAgg9
 z9:=Tryz.sizeOf9
 v9:=Tryz.zeroValue9
 t20:=Tryz.underlying20
 a20:=Tryz.isAgg20
 z20:=Tryz.sizeOf20
 v20:=Tryz.zeroValue20
 t37:=Tryz.underlying75
 a37:=Tryz.isAgg75
 z37:=Tryz.sizeOf75
 v37:=Tryz.zeroValue75
 t70:=Tryz.underlying138
 a70:=Tryz.isAgg138
 z70:=Tryz.sizeOf138
 v70:=Tryz.zeroValue138
 t72:=Tryz.underlying140
 a72:=Tryz.isAgg140
 z72:=Tryz.sizeOf140
 v72:=Tryz.zeroValue140
 t75:=Tryz.underlying144
 a75:=Tryz.isAgg144
 z75:=Tryz.sizeOf144
 v75:=Tryz.zeroValue144
 t164:=Tryz.underlying298
 a164:=Tryz.isAgg298
 z164:=Tryz.sizeOf298
 v164:=Tryz.zeroValue298 }
theorem blays167 :Go.Proofs.Lays.n167 Tryz.prog bren:={
 mixed:=by kernel_rfl
 f167:=Tryz.func123.trans (congrArg some (by kernel_rfl))
 f240:=Tryz.func121.trans (congrArg some (by kernel_rfl))
 f276:=Tryz.func174.trans (congrArg some (by kernel_rfl))
 t0:=Tryz.underlying0
 a0:=Tryz.isAgg0
 z0:=Tryz.sizeOf0
 v0:=Tryz.zeroValue0
 t4:=Tryz.underlying4
 a4:=Tryz.isAgg4
 z4:=Tryz.sizeOf4
 v4:=Tryz.zeroValue4
 t5:=Tryz.underlying5
 a5:=Tryz.isAgg5
 z5:=Tryz.sizeOf5
 v5:=Tryz.zeroValue5
 t9:=Tryz.underlying9
 a9:=Tryz.isAgg9
 z9:=Tryz.sizeOf9
 v9:=Tryz.zeroValue9
 t20:=Tryz.underlying20
 a20:=Tryz.isAgg20
 z20:=Tryz.sizeOf20
 v20:=Tryz.zeroValue20
 t37:=Tryz.underlying75
 a37:=Tryz.isAgg75
 z37:=Tryz.sizeOf75
 v37:=Tryz.zeroValue75
 t70:=Tryz.underlying138
 a70:=Tryz.isAgg138
 z70:=Tryz.sizeOf138
 v70:=Tryz.zeroValue138
 t72:=Tryz.underlying140
 a72:=Tryz.isAgg140
 z72:=Tryz.sizeOf140
 v72:=Tryz.zeroValue140
 t75:=Tryz.underlying144
 a75:=Tryz.isAgg144
 z75:=Tryz.sizeOf144
 v75:=Tryz.zeroValue144
 t164:=Tryz.underlying298
 a164:=Tryz.isAgg298
 z164:=Tryz.sizeOf298
 v164:=Tryz.zeroValue298 }
theorem blays169 :Go.Proofs.Lays.n169 Tryz.prog bren:={
 mixed:=by kernel_rfl
 f169:=Tryz.func61.trans (congrArg some (by kernel_rfl))
 t0:=Tryz.underlying0
 a0:=Tryz.isAgg0
 z0:=Tryz.sizeOf0
 v0:=Tryz.zeroValue0
 t3:=Tryz.underlying3
 a3:=Tryz.isAgg3
 z3:=Tryz.sizeOf3
 v3:=Tryz.zeroValue3
 t9:=Tryz.underlying9
 a9:=Tryz.isAgg9
 z9:=Tryz.sizeOf9
 v9:=Tryz.zeroValue9
 t37:=Tryz.underlying75
 a37:=Tryz.isAgg75
 z37:=Tryz.sizeOf75
 v37:=Tryz.zeroValue75
 t70:=Tryz.underlying138
 a70:=Tryz.isAgg138
 z70:=Tryz.sizeOf138
 v70:=Tryz.zeroValue138
 t72:=Tryz.underlying140
 a72:=Tryz.isAgg140
 z72:=Tryz.sizeOf140
 v72:=Tryz.zeroValue140
 t127:=Tryz.underlying228
 a127:=Tryz.isAgg228
 z127:=Tryz.sizeOf228
 v127:=Tryz.zeroValue228 }
theorem bextra :Builder.Extra Tryz.prog bren:={
 sizeBuilder:=by kernel_rfl
 liesBuilder:=by kernel_rfl
 t5:=Tryz.underlying5
 a5:=Tryz.isAgg5
 z5:=Tryz.sizeOf5
 v5:=Tryz.zeroValue5
 infoByte:=by kernel_rfl
 cellsByte:=by kernel_rfl
 sizeByte:=by kernel_rfl
 neB5:=by decide }
abbrev Bld (B b:Nat)(l:List UInt8)(w:World):Prop:=Lib.BuilderAt 140 5 B b (.pointer (some ⟨b,0,none⟩)) (Lib.byteCells l) w
theorem bld_grow (B b n:Nat)(w:World)(hB:B<=b)(hbk:w.heap[b]?=some (.cells #[.pointer none,.slice none 0 0] 140 (0,0)))(hBw:B<=w.heap.size)(hn:n<=281474976710656) :
  Calls Tryz.prog 122 #[.pointer (some ⟨b,0,none⟩),.int .i64 n] w fun e w'=>e = .returned (.tuple #[])/\(Bld B b [] w'/\Below B w w'):=Any.Builder_Grow_fresh blays165 bextra B b n w hB hbk hBw hn
theorem byteCells_snoc (l:List UInt8)(c:UInt8):Lib.byteCells l ++ [.int .u8 c.toNat]=Lib.byteCells (l ++ [c]):=by simp[Lib.byteCells]
theorem byteCells_app (l m:List UInt8):Lib.byteCells l++Lib.byteCells m=Lib.byteCells (l++m):=by simp[Lib.byteCells]
theorem bld_byte (B b:Nat)(l:List UInt8)(c:UInt8)(w:World)(h:Bld B b l w)(hlen:l.length+1<=140737488355328)(hBw:B<=w.heap.size) :
  Calls Tryz.prog 123 #[.pointer (some ⟨b,0,none⟩),.int .u8 c.toNat] w fun e w'=>e = .returned .nilIface/\(Bld B b (l ++ [c]) w'/\Below B w w'):=by
 have H:=Any.Builder_WriteByte blays167 bextra B b (Lib.byteCells l) c.toNat w (Or.inr h) (by simpa[Lib.byteCells] using hlen) hBw
 rw[byteCells_snoc] at H
 exact H
theorem bld_text (B b:Nat)(l m:List UInt8)(w:World)(h:Bld B b l w)(hlen:l.length+m.length<=140737488355328)(hBw:B<=w.heap.size) :
  Calls Tryz.prog 124 #[.pointer (some ⟨b,0,none⟩),.string ⟨m.toArray⟩] w fun e w'=>e = .returned (.tuple #[.int .i64 m.length,.nilIface])/\(Bld B b (l++m) w'/\Below B w w'):=by
 have H:=Any.Builder_WriteString blays166 bextra B b (Lib.byteCells l) ⟨m.toArray⟩ w (Or.inr h) (by simpa[Lib.byteCells,ByteArray.size] using hlen) hBw
 have hs:Lib.strCells ⟨m.toArray⟩=Lib.byteCells m:=by simp[Lib.strCells,Lib.byteCells]
 rw[hs,byteCells_app] at H
 have hz:(ByteArray.size ⟨m.toArray⟩)=m.length:=by simp[ByteArray.size]
 rw[hz] at H
 exact H
theorem bld_string (B b:Nat)(l:List UInt8)(w:World)(h:Bld B b l w)(hBw:B<=w.heap.size) :
  Calls Tryz.prog 61 #[.pointer (some ⟨b,0,none⟩)] w fun e w'=>e = .returned (.string ⟨l.toArray⟩)/\Below B w w':=Any.Builder_String_any blays169 bextra B b l w (Or.inr h) hBw
end

theorem lenB_short :∀ k n:Nat,n<128^(k+1)->(lenB n).length<=k+1
 | 0,n,h=>by rw[lenB_lt n (by simpa using h)];exact Nat.le_refl _
 | k+1,n,h=>by
  by_cases h8:n<128
  ·rw[lenB_lt n h8];simp
  ·rw[lenB_ge n h8,List.length_cons]
   have:=lenB_short k (n/128) (Nat.div_lt_of_lt_mul (by rw[Nat.mul_comm,←Nat.pow_succ];exact h))
   omega
theorem rowS_len10 (l:List (List UInt8))(h:l.flatten.length<2^60):(rowS l).length<=l.flatten.length+10*l.length:=by
 unfold rowS
 induction l with
 | nil=>simp
 | cons s l ih=>
  rw[List.flatten_cons,List.length_append] at h
  rw[List.flatMap_cons,List.length_append,List.length_append,List.flatten_cons,List.length_append,List.length_cons]
  have h1:=lenB_short 9 s.length (by omega)
  have h2:=ih (by omega)
  omega
theorem or128 (m:Nat):bits .or .u8 ((m:Int)%128) 128=(((UInt8.ofNat (m%128+128)).toNat:Nat):Int):=by
 have h:∀ n:Nat,n<128->bits .or .u8 (n:Int) 128=(((UInt8.ofNat (n+128)).toNat:Nat):Int):=by decide +kernel
 rw[←h _ (Nat.mod_lt m (by decide))]
 rfl
theorem low8 (m:Nat)(h:m<128):(m:Int)=(((UInt8.ofNat m).toNat:Nat):Int):=by
 simp;omega
theorem nrow_any (l:List (List UInt8))(v:Value)(w:World)(hS:Strs w v l)(hl:l.flatten.length+10*l.length<=140737488355328)(hn:l.length<2^44) :
  Calls Tryz.prog 62 #[v] w fun e w'=>e = .returned (.string ⟨(rowS l).toArray⟩)/\Below w.heap.size w w':=by
 obtain⟨a,c,rfl⟩:=hS.len
 have HS:=Lib.hid hS
 clear hS
 go_enter Tryz.func62,Tryz.ntmps62
 go_wp2_with fail
 go_loopw [3,5,12] (fun z _ i wr=>∃ k:Nat,k<=l.length/\i = .int .i64 k/\z = .int .i64 (((joinTo l k).length+4*k:Nat))/\Below w.heap.size w wr) (fun _ _ i _=>l.length-(intOf i).toNat)
 case atStart=>exact⟨0,by omega,rfl,rfl,Below.refl _ _⟩
 case round=>
  obtain⟨k,hk,rfl,rfl,hb⟩:=hrel
  have HB:=Lib.hid hb
  clear hb
  have hj:=joinTo_le l k
  by_cases hlt:k<l.length
  ·have hlt':(k:Int)<l.length:=by omega
   rcases HS.out.below HB.out with⟨_,h2⟩ | ⟨b,o,c',h1,h2,h3⟩
   ·subst h2;simp at hlt
   ·injection h1 with h1a _ h1c
    subst h1a h1c
    have hc:=h3 k hlt
    clear h3
    have hj2:=joinTo_le l (k+1)
    have HJ:=Lib.hid (congrArg List.length (joinTo_succ l k hlt))
    rw[List.length_append] at HJ
    rw[←HJ.out] at hj2
    generalize l.getD k []=s at *
    unfold tx at hc
    generalize (joinTo l k).length=m at *
    go_wp2_with fail
    go_roundw
    case rel=>exact⟨k+1,by omega,by go_num,by rw[←HJ.out];go_num,HB.out⟩
    case measure=>simp[intOf];omega
  ·obtain rfl:k=l.length:=by omega
   rw[joinTo_all] at *
   clear hj
   generalize hZ:l.flatten.length+4*l.length=Z at *
   have hZ':Z<=281474976710656:=by omega
   have HBS:=Lib.hid HB.out.size
   go_upto_region 8 with(fail)
   have HB1:=Lib.hid (HB.out.alloc HB.out.size (.cells #[.pointer none,.slice none 0 0] 140))
   have hbk:(wr.alloc (.cells #[.pointer none,.slice none 0 0] 140)).heap[wr.heap.size]?=some (.cells #[.pointer none,.slice none 0 0] 140 (0,0)):=by unfold World.alloc;simp
   have HBK:=Lib.hid hbk
   clear hbk HB
   generalize wr.alloc (.cells #[.pointer none,.slice none 0 0] 140)=w1 at *
   generalize wr.heap.size=b at *
   go_wp2_with fail
   refine(bld_grow w.heap.size b Z w1 HBS.out HBK.out HB1.out.size hZ').mono ?_
   rintro e w2 ⟨rfl,hD,hb2⟩
   have HD:=Lib.hid hD
   have HB2:=Lib.hid (HB1.out.trans hb2)
   clear hD hb2 HB1 HBK hZ hZ'
   go_wp2_with fail
   go_loopw [8,9,26] (fun _ _ i wr=>∃ k:Nat,k<=l.length/\i = .int .i64 k/\Bld w.heap.size b (rowS (l.take k)) wr/\Below w.heap.size w wr) (fun _ _ i _=>l.length-(intOf i).toNat)
   case atStart=>exact⟨0,by omega,rfl,HD.out,HB2.out⟩
   case round=>
    clear HD HB2
    obtain⟨k,hk,rfl,hD,hb⟩:=hrel
    have HD:=Lib.hid hD
    have HB:=Lib.hid hb
    clear hD hb
    by_cases hlt:k<l.length
    ·have hlt':(k:Int)<l.length:=by omega
     rcases HS.out.below HB.out with⟨_,h2⟩ | ⟨b',o,c',h1,h2,h3⟩
     ·subst h2;simp at hlt
     ·injection h1 with h1a _ h1c
      subst h1a h1c
      have hc:=h3 k hlt
      clear h3
      have HSN:=Lib.hid (rowS_snoc l k hlt)
      have hle:(rowS (l.take k)).length+(lenB (l.getD k []).length++l.getD k []).length<=140737488355328:=by
       rw[←List.length_append,←rowS_snoc l k hlt]
       have h1:=rowS_len10 (l.take (k+1)) (Nat.lt_of_le_of_lt (joinTo_le l (k+1)) (by omega))
       have h2:=joinTo_le l (k+1)
       unfold joinTo at h2
       rw[List.length_take] at h1
       omega
      rw[List.length_append] at hle
      generalize l.getD k []=s at *
      generalize rowS (l.take k)=R at *
      unfold tx at hc
      go_wp2_with fail
      go_loopw [9] (fun n wr=>∃ m:Nat,∃ pre:List UInt8,n = .int .i64 m/\pre++lenB m=R++lenB s.length/\Bld w.heap.size b pre wr/\Below w.heap.size w wr/\m<2^48) (fun n _=>(intOf n).toNat)
      case atStart=>exact⟨s.length,R,rfl,rfl,HD.out,HB.out,by omega⟩
      case round=>
       obtain⟨m,pre,rfl,he,hD,hb,hm⟩:=hrel
       have HD:=Lib.hid hD
       have HB:=Lib.hid hb
       clear hD hb
       have hel:=congrArg List.length he
       rw[List.length_append,List.length_append] at hel
       by_cases hm8:m<128
       ·rw[lenB_lt m hm8] at he hel
        rw[List.length_singleton] at hel
        have HW:=Lib.hid (bld_byte w.heap.size b pre (UInt8.ofNat m) _ HD.out (by omega) HB.out.size)
        rw[←low8 m hm8,he] at HW
        clear HD
        have hpl:(R++lenB s.length).length+s.length<=140737488355328:=by rw[List.length_append];omega
        clear he hel
        go_wp2_with fail
        refine HW.out.mono ?_
        rintro e w5 ⟨rfl,hD5,hb5⟩
        have HB5:=Lib.hid (HB.out.trans hb5)
        have HW5:=Lib.hid (bld_text w.heap.size b _ s _ hD5 hpl HB5.out.size)
        rw[List.append_assoc,←HSN.out] at HW5
        clear hD5 hb5 HW hpl
        go_wp2_with fail
        refine HW5.out.mono ?_
        rintro e w6 ⟨rfl,hD6,hb6⟩
        have HD6:=Lib.hid hD6
        have HB6:=Lib.hid (HB5.out.trans hb6)
        clear hD6 hb6 HW5 HB5
        go_wp2_with fail
        go_roundw
        case rel=>exact⟨k+1,by omega,by go_num,HD6.out,HB6.out⟩
        case measure=>simp[intOf];omega
       ·rw[lenB_ge m hm8] at he
        have ho:=or128 m
        generalize UInt8.ofNat (m%128+128)=x at *
        have hpl:pre.length+1<=140737488355328:=by
         have:=congrArg List.length he
         simp only[List.length_append,List.length_cons] at this
         omega
        have HW:=Lib.hid (bld_byte w.heap.size b pre x _ HD.out hpl HB.out.size)
        rw[←ho] at HW
        clear hpl hel ho HD
        have ha:bits .and .i64 (m:Int) 127=(m:Int)%128:=i64_and127 m
        go_wp2_with fail
        refine HW.out.mono ?_
        rintro e w5 ⟨rfl,hD5,hb5⟩
        have HD5:=Lib.hid hD5
        have HB5:=Lib.hid (HB.out.trans hb5)
        clear hD5 hb5 HW
        go_wp2_with fail
        go_roundw
        case rel=>exact⟨m/128,pre ++ [x],by go_num,by rw[List.append_assoc];exact he,HD5.out,HB5.out,by omega⟩
        case measure=>simp[intOf];omega
    ·obtain rfl:k=l.length:=by omega
     rw[List.take_length] at HD
     go_wp2_with fail
     refine(bld_string w.heap.size b (rowS l) _ HD.out HB.out.size).mono ?_
     rintro e w4 ⟨rfl,hb4⟩
     go_wp2_with fail
     go_ret
     exact⟨rfl,HB.out.trans hb4⟩
end Go.Proofs.YtdjholkjkbihmaaGreatDoor
