/- Laws and walks of TopNeverOther. -/
import Derived.Test.YtdjholkjkbihmaaGreatDoorF03
namespace Go.Proofs.YtdjholkjkbihmaaGreatDoor
open Go.RowKit
set_option maxRecDepth 100000
set_option maxHeartbeats 4000000

def ft {β:Type}:List (Nat×β)->Nat->Option β
 | [],_=>none
 | p::r,x=>cond (Nat.beq p.1 x) (some p.2) (ft r x)
def AllP {β:Type}(Q:Nat->β->Prop):List (Nat×β)->Prop
 | []=>True
 | p::r=>Q p.1 p.2/\AllP Q r
theorem AllP.at {β:Type}{Q:Nat->β->Prop}:∀ {l:List (Nat×β)} {t:Nat} {d:β},AllP Q l->ft l t=some d->Q t d
 | [],_,_,_,h=>by simp[ft] at h
 | p::r,t,d,ha,h=>by
  unfold ft at h
  cases hb:Nat.beq p.1 t with
  | true=>
   rw[hb,cond_true,Option.some.injEq] at h
   rw[←h,←Nat.eq_of_beq_eq_true hb];exact ha.1
  | false=>
   rw[hb,cond_false] at h
   exact AllP.at ha.2 h
def unL :List (Nat×TypeDesc):=[(2,.int .i64),(3,.int .i64),(4,.bool),(5,.int .u8),(9,.string),(22,.array 32 5),(23,.array 32 5),(24,.array 64 5),(25,.slice 73),(26,.slice 3),(29,.array 5 28),(34,.slice 106),(37,.slice 23),(40,.slice 88),(41,.slice 118),(44,.slice 161),(47,.slice 101),(48,.slice 9),(51,.slice 71),(52,.int .i64),(63,.int .u64),(64,.array 3 48),(65,.array 32 5),(75,.slice 5),(77,.slice 65),(111,.slice 158),(124,.int .u32),(125,.array 8 124),(184,.array 12 5),(193,.slice 196),(208,.array 5 207),(211,.slice 213),(224,.array 8 5),(227,.int .u64),(237,.array 3 71),(238,.array 3 5),(274,.array 3 9),(288,.array 16 124),(292,.slice 124),(293,.array 16 5),(294,.array 10 293),(300,.slice 48),(342,.array 4 5),(358,.array 6 4),(364,.array 4 3),(367,.array 256 4)]
def und :Nat->Option TypeDesc:=ft unL
theorem und_ok {t:Nat}{d:TypeDesc}(h:und t=some d):Tryz.prog.underlying t=some d:=AllP.at (l:=unL) (Q:=fun t d=>Tryz.prog.underlying t=some d) ⟨Tryz.underlying2,Tryz.underlying3,Tryz.underlying4,Tryz.underlying5,Tryz.underlying9,Tryz.underlying22,Tryz.underlying23,Tryz.underlying24,Tryz.underlying25,Tryz.underlying26,Tryz.underlying29,Tryz.underlying34,Tryz.underlying37,Tryz.underlying40,Tryz.underlying41,Tryz.underlying44,Tryz.underlying47,Tryz.underlying48,Tryz.underlying51,Tryz.underlying52,Tryz.underlying63,Tryz.underlying64,Tryz.underlying65,Tryz.underlying75,Tryz.underlying77,Tryz.underlying111,Tryz.underlying124,Tryz.underlying125,Tryz.underlying184,Tryz.underlying193,Tryz.underlying208,Tryz.underlying211,Tryz.underlying224,Tryz.underlying227,Tryz.underlying237,Tryz.underlying238,Tryz.underlying274,Tryz.underlying288,Tryz.underlying292,Tryz.underlying293,Tryz.underlying294,Tryz.underlying300,Tryz.underlying342,Tryz.underlying358,Tryz.underlying364,Tryz.underlying367,trivial⟩ h
def szL :List (Nat×Nat):=[(2,1),(3,1),(4,1),(5,1),(9,1),(22,32),(23,32),(24,64),(25,1),(26,1),(28,2),(29,10),(31,11),(34,1),(36,1),(37,1),(39,1),(40,1),(41,1),(43,4),(44,1),(46,9),(47,1),(48,1),(50,24),(51,1),(52,1),(63,1),(64,3),(65,32),(67,41),(71,33),(73,4),(75,1),(77,1),(88,5),(101,2),(106,33),(111,1),(118,2),(124,1),(125,8),(130,74),(135,1),(138,1),(140,2),(158,3),(161,34),(169,13),(179,1),(184,12),(186,1),(193,1),(196,2),(200,1),(201,1),(204,1),(205,1),(207,3),(208,15),(211,1),(213,4),(220,1),(224,8),(227,1),(228,1),(237,99),(238,3),(263,1),(265,3),(274,3),(288,16),(292,1),(293,16),(294,160),(296,1),(298,1),(300,1),(304,1),(306,1),(308,1),(318,1),(323,1),(325,1),(327,1),(329,1),(341,1),(342,4),(358,6),(364,4),(365,1),(367,256),(384,1),(393,1)]
def szT :Nat->Option Nat:=ft szL
theorem szT_ok {t m:Nat}(h:szT t=some m)(w:World):(sizeOf t).run Tryz.prog w = .ok m w:=AllP.at (l:=szL) (Q:=fun t m=>∀ w,(sizeOf t).run Tryz.prog w = .ok m w) ⟨Tryz.sizeOf2,Tryz.sizeOf3,Tryz.sizeOf4,Tryz.sizeOf5,Tryz.sizeOf9,Tryz.sizeOf22,Tryz.sizeOf23,Tryz.sizeOf24,Tryz.sizeOf25,Tryz.sizeOf26,Tryz.sizeOf28,Tryz.sizeOf29,Tryz.sizeOf31,Tryz.sizeOf34,Tryz.sizeOf36,Tryz.sizeOf37,Tryz.sizeOf39,Tryz.sizeOf40,Tryz.sizeOf41,Tryz.sizeOf43,Tryz.sizeOf44,Tryz.sizeOf46,Tryz.sizeOf47,Tryz.sizeOf48,Tryz.sizeOf50,Tryz.sizeOf51,Tryz.sizeOf52,Tryz.sizeOf63,Tryz.sizeOf64,Tryz.sizeOf65,Tryz.sizeOf67,Tryz.sizeOf71,Tryz.sizeOf73,Tryz.sizeOf75,Tryz.sizeOf77,Tryz.sizeOf88,Tryz.sizeOf101,Tryz.sizeOf106,Tryz.sizeOf111,Tryz.sizeOf118,Tryz.sizeOf124,Tryz.sizeOf125,Tryz.sizeOf130,Tryz.sizeOf135,Tryz.sizeOf138,Tryz.sizeOf140,Tryz.sizeOf158,Tryz.sizeOf161,Tryz.sizeOf169,Tryz.sizeOf179,Tryz.sizeOf184,Tryz.sizeOf186,Tryz.sizeOf193,Tryz.sizeOf196,Tryz.sizeOf200,Tryz.sizeOf201,Tryz.sizeOf204,Tryz.sizeOf205,Tryz.sizeOf207,Tryz.sizeOf208,Tryz.sizeOf211,Tryz.sizeOf213,Tryz.sizeOf220,Tryz.sizeOf224,Tryz.sizeOf227,Tryz.sizeOf228,Tryz.sizeOf237,Tryz.sizeOf238,Tryz.sizeOf263,Tryz.sizeOf265,Tryz.sizeOf274,Tryz.sizeOf288,Tryz.sizeOf292,Tryz.sizeOf293,Tryz.sizeOf294,Tryz.sizeOf296,Tryz.sizeOf298,Tryz.sizeOf300,Tryz.sizeOf304,Tryz.sizeOf306,Tryz.sizeOf308,Tryz.sizeOf318,Tryz.sizeOf323,Tryz.sizeOf325,Tryz.sizeOf327,Tryz.sizeOf329,Tryz.sizeOf341,Tryz.sizeOf342,Tryz.sizeOf358,Tryz.sizeOf364,Tryz.sizeOf365,Tryz.sizeOf367,Tryz.sizeOf384,Tryz.sizeOf393,trivial⟩ h w
def agL :List (Nat×Bool):=[(22,true),(23,true),(24,true),(28,true),(29,true),(31,true),(36,true),(39,true),(43,true),(46,true),(50,true),(64,true),(65,true),(67,true),(71,true),(73,true),(88,true),(101,true),(106,true),(118,true),(125,true),(130,true),(140,true),(158,true),(161,true),(169,true),(184,true),(196,true),(207,true),(208,true),(213,true),(224,true),(237,true),(238,true),(265,true),(274,true),(288,true),(293,true),(294,true),(342,true),(358,true),(364,true),(367,true),(2,false),(3,false),(4,false),(5,false),(9,false),(25,false),(26,false),(34,false),(37,false),(40,false),(41,false),(44,false),(47,false),(48,false),(51,false),(52,false),(63,false),(75,false),(77,false),(111,false),(124,false),(135,false),(138,false),(179,false),(186,false),(193,false),(200,false),(201,false),(204,false),(205,false),(211,false),(220,false),(227,false),(228,false),(263,false),(292,false),(296,false),(298,false),(300,false),(304,false),(306,false),(308,false),(318,false),(323,false),(325,false),(327,false),(329,false),(341,false),(365,false),(384,false),(393,false)]
def agT :Nat->Option Bool:=ft agL
theorem agT_ok {t:Nat}{b:Bool}(h:agT t=some b)(w:World):(isAgg t).run Tryz.prog w = .ok b w:=AllP.at (l:=agL) (Q:=fun t b=>∀ w,(isAgg t).run Tryz.prog w = .ok b w) ⟨Tryz.isAgg22,Tryz.isAgg23,Tryz.isAgg24,Tryz.isAgg28,Tryz.isAgg29,Tryz.isAgg31,Tryz.isAgg36,Tryz.isAgg39,Tryz.isAgg43,Tryz.isAgg46,Tryz.isAgg50,Tryz.isAgg64,Tryz.isAgg65,Tryz.isAgg67,Tryz.isAgg71,Tryz.isAgg73,Tryz.isAgg88,Tryz.isAgg101,Tryz.isAgg106,Tryz.isAgg118,Tryz.isAgg125,Tryz.isAgg130,Tryz.isAgg140,Tryz.isAgg158,Tryz.isAgg161,Tryz.isAgg169,Tryz.isAgg184,Tryz.isAgg196,Tryz.isAgg207,Tryz.isAgg208,Tryz.isAgg213,Tryz.isAgg224,Tryz.isAgg237,Tryz.isAgg238,Tryz.isAgg265,Tryz.isAgg274,Tryz.isAgg288,Tryz.isAgg293,Tryz.isAgg294,Tryz.isAgg342,Tryz.isAgg358,Tryz.isAgg364,Tryz.isAgg367,Tryz.isAgg2,Tryz.isAgg3,Tryz.isAgg4,Tryz.isAgg5,Tryz.isAgg9,Tryz.isAgg25,Tryz.isAgg26,Tryz.isAgg34,Tryz.isAgg37,Tryz.isAgg40,Tryz.isAgg41,Tryz.isAgg44,Tryz.isAgg47,Tryz.isAgg48,Tryz.isAgg51,Tryz.isAgg52,Tryz.isAgg63,Tryz.isAgg75,Tryz.isAgg77,Tryz.isAgg111,Tryz.isAgg124,Tryz.isAgg135,Tryz.isAgg138,Tryz.isAgg179,Tryz.isAgg186,Tryz.isAgg193,Tryz.isAgg200,Tryz.isAgg201,Tryz.isAgg204,Tryz.isAgg205,Tryz.isAgg211,Tryz.isAgg220,Tryz.isAgg227,Tryz.isAgg228,Tryz.isAgg263,Tryz.isAgg292,Tryz.isAgg296,Tryz.isAgg298,Tryz.isAgg300,Tryz.isAgg304,Tryz.isAgg306,Tryz.isAgg308,Tryz.isAgg318,Tryz.isAgg323,Tryz.isAgg325,Tryz.isAgg327,Tryz.isAgg329,Tryz.isAgg341,Tryz.isAgg365,Tryz.isAgg384,Tryz.isAgg393,trivial⟩ h w
def StrOk (t:Nat)(offs:List Nat):Prop:=∃ fs,Tryz.prog.underlying t=some (.struct fs)/\fs.toList.map (·.offset)=offs/\(fs.toList.all fun fd=>(szT fd.type).any (· != 0))=true
def foL :List (Nat×List Nat):=[(28,[0,1]),(31,[0,10]),(36,[0]),(39,[0]),(43,[0,1,2,3]),(46,[0,1,2,3,4,8]),(50,[0,11,12,13,22,23]),(67,[0,1,2,3,4,5,6,9]),(71,[0,1]),(73,[0,1,2,3]),(88,[0,1,2,3,4]),(101,[0,1]),(106,[0,32]),(118,[0,1]),(130,[0,8,72,73]),(140,[0,1]),(158,[0,1,2]),(161,[0,1,2]),(169,[0,1,2,11,12]),(196,[0,1]),(207,[0,1,2]),(213,[0,1,2]),(265,[0,1,2])]
def foT :Nat->Option (List Nat):=ft foL
theorem foT_ok {t:Nat}{l:List Nat}(h:foT t=some l):StrOk t l:=AllP.at (l:=foL) (Q:=StrOk) ⟨⟨_,Tryz.underlying28,rfl,rfl⟩,⟨_,Tryz.underlying31,rfl,rfl⟩,⟨_,Tryz.underlying36,rfl,rfl⟩,⟨_,Tryz.underlying39,rfl,rfl⟩,⟨_,Tryz.underlying43,rfl,rfl⟩,⟨_,Tryz.underlying46,rfl,rfl⟩,⟨_,Tryz.underlying50,rfl,rfl⟩,⟨_,Tryz.underlying67,rfl,rfl⟩,⟨_,Tryz.underlying71,rfl,rfl⟩,⟨_,Tryz.underlying73,rfl,rfl⟩,⟨_,Tryz.underlying88,rfl,rfl⟩,⟨_,Tryz.underlying101,rfl,rfl⟩,⟨_,Tryz.underlying106,rfl,rfl⟩,⟨_,Tryz.underlying118,rfl,rfl⟩,⟨_,Tryz.underlying130,rfl,rfl⟩,⟨_,Tryz.underlying140,rfl,rfl⟩,⟨_,Tryz.underlying158,rfl,rfl⟩,⟨_,Tryz.underlying161,rfl,rfl⟩,⟨_,Tryz.underlying169,rfl,rfl⟩,⟨_,Tryz.underlying196,rfl,rfl⟩,⟨_,Tryz.underlying207,rfl,rfl⟩,⟨_,Tryz.underlying213,rfl,rfl⟩,⟨_,Tryz.underlying265,rfl,rfl⟩,trivial⟩ h
theorem info_size {t m:Nat}(h:szT t=some m):(Tryz.prog.info? t).map (·.size)=some m:=by
 have h1:=szT_ok h default
 unfold sizeOf typeInfo at h1
 cases hi:Tryz.prog.info? t with
 | none=>simp[hi,go_sem] at h1
 | some i=>simp[hi,go_sem] at h1;rw[Option.map_some,h1]
theorem elOf {t e m b:Nat}(hu:Tryz.prog.underlying t=some (.slice e))(h:((Tryz.prog.info? e).map fun i=>(i.zero.map (·.cells.size),i.size,i.bytes))=some (some m,m,b))(hp:0<m):ElT Tryz.prog t e m b:=by
 refine⟨hu,?_,hp⟩
 obtain⟨i,hi,hz⟩:=Option.map_eq_some_iff.1 h
 simp only[Prod.mk.injEq] at hz
 obtain⟨h1,h2,h3⟩:=hz
 obtain⟨z,hz1,hz2⟩:=Option.map_eq_some_iff.1 h1
 exact⟨i,z,hi,hz1,h2,h3,hz2⟩
def elL :List (Nat×Nat×Nat×Nat):=[(25,73,4,56),(26,3,1,8),(34,106,33,48),(37,23,32,32),(40,88,5,56),(41,118,2,40),(44,161,34,56),(47,101,2,32),(48,9,1,16),(51,71,33,33),(75,5,1,1),(77,65,32,32),(111,158,3,32),(193,196,2,24),(211,213,4,48),(292,124,1,4),(300,48,1,24)]
def elT :Nat->Option (Nat×Nat×Nat):=ft elL
theorem elT_ok {t e m b:Nat}(h:elT t=some (e,m,b)):ElT Tryz.prog t e m b:=AllP.at (l:=elL) (Q:=fun t d=>ElT Tryz.prog t d.1 d.2.1 d.2.2) ⟨elOf Tryz.underlying25 (by kernel_rfl) (by decide),elOf Tryz.underlying26 (by kernel_rfl) (by decide),elOf Tryz.underlying34 (by kernel_rfl) (by decide),elOf Tryz.underlying37 (by kernel_rfl) (by decide),elOf Tryz.underlying40 (by kernel_rfl) (by decide),elOf Tryz.underlying41 (by kernel_rfl) (by decide),elOf Tryz.underlying44 (by kernel_rfl) (by decide),elOf Tryz.underlying47 (by kernel_rfl) (by decide),elOf Tryz.underlying48 (by kernel_rfl) (by decide),elOf Tryz.underlying51 (by kernel_rfl) (by decide),elOf Tryz.underlying75 (by kernel_rfl) (by decide),elOf Tryz.underlying77 (by kernel_rfl) (by decide),elOf Tryz.underlying111 (by kernel_rfl) (by decide),elOf Tryz.underlying193 (by kernel_rfl) (by decide),elOf Tryz.underlying211 (by kernel_rfl) (by decide),elOf Tryz.underlying292 (by kernel_rfl) (by decide),elOf Tryz.underlying300 (by kernel_rfl) (by decide),trivial⟩ h
section

theorem allA {cs:Array Value}(h:(cs.toList.all fun u=>u.oneCell')=true):(cs.all fun u=>u.oneCell')=true:=by rw[←Array.all_toList];exact h
theorem oneN :(([]:List Value).all fun u=>u.oneCell')=true:=rfl
theorem oneC {u:Value}{l:List Value}(h:u.oneCell'=true)(h2:(l.all fun u=>u.oneCell')=true):((u::l).all fun u=>u.oneCell')=true:=by simp[h] at h2 ⊢;exact h2
section
variable {D:List Deferred}{nt:Nat}{w0:World}{L:LT}{M:MT}{R:List Rw}{G:Kn}{x y z:Operand}{v v2:Value}{c:Bool}{ty t t2:TypeId}{k k2:IntKind}{p q r:Int}{s s2:List UInt8}{g i j m n o:Nat}
theorem SL.own {e:TypeId}{cs:List Value}(h:(⟨v,e,m,n,cs⟩:Rw)∈R:=by repeat (first | exact List.mem_cons_self .. | refine List.mem_cons_of_mem _ ?_)):SL (St D nt w0 L M R) v m n cs:=fun _ _ hg=>Sl.own (hg.r _ h)
theorem sl {cs:List Value}(h:SL G v m n cs:=by first | exact SL.p ‹_› | exact SL.own | exact SL.u (SL.p ‹_›) | exact SL.u SL.own | exact SL.zp ‹_› | exact SL.zr | exact SL.qr | exact SL.qy (SL.zp ‹_›) | exact SL.qy SL.zr | exact SL.qy SL.qr | exact SL.u (SL.zp ‹_›) | exact SL.u SL.zr):SL G v m n cs:=h
theorem run_fldT {offs:List Nat}{a:Act}{w:World}{op:Oper}{ad:Addr}{off:Nat}(ho:op.op = .fieldAddr t x j)(hx:a.eval x = .pointer (some ad))(hf:foT t=some offs)(hj:offs[j]?=some off):(execOp a.eval op).run Tryz.prog w = .ok (.value (.pointer (some (ad.add off)))) w:=by
 obtain⟨fs,h1,h2,h3⟩:=foT_ok hf
 have hl:fs.toList[j]?.map (·.offset)=some off:=by rw[←hj,←h2,List.getElem?_map]
 cases hfd:fs.toList[j]? with
 | none=>rw[hfd] at hl;cases hl
 | some fd=>
  rw[hfd] at hl
  have h4:=List.all_eq_true.1 h3 fd (List.mem_of_getElem? hfd)
  cases hz:szT fd.type with
  | none=>rw[hz] at h4;cases h4
  | some z=>
   rw[hz] at h4
   exact run_fldG ho hx h1 (by simpa using hfd) (Option.some.inj hl) (szT_ok hz w) (by simpa using h4)
theorem PR.fa {offs:List Nat}{off:Nat}(hx:EV G x (pt g):=by exact ev)(hf:foT t=some offs:=by rfl)(hj:offs[j]?=some off:=by rfl):PR Tryz.prog G (.fieldAddr t x j) (px g off):=fun a w _ ho hg=>by
 have h:=run_fldT (w:=w) ho (hx a w hg) hf hj
 rwa[addr_add,Nat.zero_add] at h
theorem PR.fq {offs:List Nat}{off:Nat}(hx:EV G x (px g o):=by exact ev)(hf:foT t=some offs:=by rfl)(hj:offs[j]?=some off:=by rfl):PR Tryz.prog G (.fieldAddr t x j) (px g (o+off)):=fun a w _ ho hg=>by
 have h:=run_fldT (w:=w) ho (hx a w hg) hf hj
 rwa[addr_add] at h
theorem PR.fs {offs:List Nat}{off:Nat}{cs:List Value}(hx:EV G x (slPtr v o):=by exact ev)(hs:SL G v m n cs:=by exact sl)(hn:0<n:=by omega)(hf:foT t=some offs:=by rfl)(hj:offs[j]?=some off:=by rfl):PR Tryz.prog G (.fieldAddr t x j) (slPtr v (o+off)):=fun a w _ ho hg=>by
 obtain⟨b,of,cc,rfl,hq⟩:=slPtr_of (hs a w hg) hn
 have h:=run_fldT (w:=w) ho (hx a w hg) hf hj
 rw[h]
 simp only[slPtr,addr_add]
 rw[Nat.add_assoc]
theorem PR.lc {cs:Array Value}(hc:cs[o]?=some v)(hx:EV G x (px g o):=by exact ev)(hm:MB G g t cs:=by exact mb)(ha:agT ty=some false:=by rfl):PR Tryz.prog G (.load ty x) v:=fun a w _ ho hg=>run_ldF ho (hx a w hg) (hm a w hg) hc (agT_ok ha w)
theorem PR.ld {cs:Array Value}(hx:EV G x (px g o):=by exact ev)(hm:MB G g t cs:=by exact mb)(hc:nth cs.toList o=some v:=by rfl)(ha:agT ty=some false:=by rfl):PR Tryz.prog G (.load ty x) v:=PR.lc (nth_arr hc) hx hm ha
theorem PR.lw {cs:Array Value}(hx:EV G x (pt g):=by exact ev)(hm:MB G g t cs:=by exact mb)(ha:agT ty=some true:=by rfl)(hz:szT ty=some n:=by rfl)(hn:cs.size=n:=by first | rfl | assumption | simp):PR Tryz.prog G (.load ty x) (.agg cs):=fun a w _ ho hg=>by
 have h:=run_ldS (P:=Tryz.prog) (w:=w) (cs:=cs.toList) ho (hx a w hg) (agT_ok ha w) (by rw[Array.length_toList,hn];exact szT_ok hz w) (fun j u hj=>by rw[Nat.zero_add,(hm a w hg).cell];simpa using hj)
 rwa[Array.toArray_toList] at h
theorem PR.ls {cs:Array Value}(ys:List Value)(hx:EV G x (px g o):=by exact ev)(hm:MB G g t cs:=by exact mb)(hy:(cs.toList.drop o).take ys.length=ys:=by rfl)(ha:agT ty=some true:=by rfl)(hz:szT ty=some ys.length:=by rfl):PR Tryz.prog G (.load ty x) (.agg ys.toArray):=fun a w _ ho hg=>
 run_ldS ho (hx a w hg) (agT_ok ha w) (szT_ok hz w) (fun j u hj=>by
  rw[(hm a w hg).cell,←Array.getElem?_toList]
  have hl:=(List.getElem?_eq_some_iff.1 hj).1
  rw[←hy,List.getElem?_take_of_lt hl,List.getElem?_drop] at hj
  exact hj)
theorem PR.ix {e:TypeId}{cs:List Value}(hp:p=(i:Int):=by rfl)(hx:EV G x v:=by exact ev)(hs:SL G v m n cs:=by exact sl)(hy:EV G y (.int k p):=by exact ev)(hu:und t=some (.slice e):=by rfl)(hz:szT e=some m:=by rfl)(hi:i<n:=by omega):PR Tryz.prog G (.indexAddr t x y) (slPtr v (i*m)):=fun a w _ ho hg=>
 run_atP ho (hx a w hg) (hy a w hg) hp (hs a w hg) hi (und_ok hu) (szT_ok hz w)
theorem PR.lp {cs:List Value}(hc:cs[o]?=some v2)(hx:EV G x (slPtr v o):=by exact ev)(hs:SL G v m n cs:=by exact sl)(ha:agT ty=some false:=by rfl):PR Tryz.prog G (.load ty x) v2:=fun a w _ ho hg=>run_ldP ho (hx a w hg) (hs a w hg) hc (agT_ok ha w)
theorem PR.lq {cs ys:List Value}(hc:∀ j u,ys[j]?=some u->cs[o+j]?=some u)(hx:EV G x (slPtr v o):=by exact ev)(hs:SL G v m n cs:=by exact sl)(hn:0<n:=by omega)(ha:agT ty=some true:=by rfl)(hz:szT ty=some ys.length:=by rfl):PR Tryz.prog G (.load ty x) (.agg ys.toArray):=fun a w _ ho hg=>run_ldPS ho (hx a w hg) (hs a w hg) hn hc (agT_ok ha w) (szT_ok hz w)
theorem PR.ln (hx:EV G x (sv s):=by exact ev)(hu:und t=some .string:=by rfl):PR Tryz.prog G (.call { callee:=.builtin .len,args:=#[x],argTypes:=#[t] }) (i6 (s.length:Int)):=fun a w _ ho hg=>run_len ho (hx a w hg) rfl (und_ok hu)
theorem PR.l0 {e:TypeId}{ad:Option Addr}{cc:Nat}(hx:EV G x (.slice ad n cc):=by exact ev)(hu:und t=some (.slice e):=by rfl):PR Tryz.prog G (.call { callee:=.builtin .len,args:=#[x],argTypes:=#[t] }) (i6 (n:Int)):=fun a w _ ho hg=>run_lenSl ho (hx a w hg) rfl (und_ok hu)
theorem PR.lr {e:TypeId}{cs:List Value}(hx:EV G x v:=by exact ev)(hs:SL G v m n cs:=by exact sl)(hu:und t=some (.slice e):=by rfl):PR Tryz.prog G (.call { callee:=.builtin .len,args:=#[x],argTypes:=#[t] }) (i6 (n:Int)):=fun a w _ ho hg=>run_lenS ho (hx a w hg) (hs a w hg) rfl (und_ok hu)
theorem PR.cv (h:k2.wrap p=r)(hx:EV G x (.int k p):=by exact ev)(hu:und t=some (.int k):=by rfl)(hu2:und t2=some (.int k2):=by rfl):PR Tryz.prog G (.convert t t2 x) (.int k2 r):=fun a w _ ho hg=>run_cvI ho (hx a w hg) (und_ok hu) (und_ok hu2) h
theorem PR.sa (hp:p=(i:Int):=by rfl)(hx:EV G x (sv s):=by exact ev)(hy:EV G y (.int k p):=by exact ev)(hu:und t=some .string:=by rfl)(hn:i<s.length:=by omega):PR Tryz.prog G (.index t x y) (.int .u8 ((bt s i).toNat:Int)):=fun a w _ ho hg=>run_sAt ho (hx a w hg) (hy a w hg) (und_ok hu) hp hn
theorem PR.st (hp:p=(i:Int):=by rfl)(hx:EV G x (sv s):=by exact ev)(hy:EV G y (.int k p):=by exact ev)(hu:und t=some .string:=by rfl)(hn:i<=s.length:=by omega):PR Tryz.prog G (.slice t x none (some y) none) (sv (s.take i)):=fun a w _ ho hg=>run_sTo ho (hx a w hg) (hy a w hg) (und_ok hu) hp hn
theorem PR.sd (hp:p=(i:Int):=by rfl)(hx:EV G x (sv s):=by exact ev)(hy:EV G y (.int k p):=by exact ev)(hu:und t=some .string:=by rfl)(hn:i<=s.length:=by omega):PR Tryz.prog G (.slice t x (some y) none none) (sv (s.drop i)):=fun a w _ ho hg=>run_sFrom ho (hx a w hg) (hy a w hg) (und_ok hu) hp hn
theorem PR.sm (hp:p=(i:Int):=by rfl)(hq:q=(j:Int):=by rfl)(hx:EV G x (sv s):=by exact ev)(hy:EV G y (.int k p):=by exact ev)(hz:EV G z (.int k2 q):=by exact ev)(hu:und t=some .string:=by rfl)(hi:i<=j:=by omega)(hn:j<=s.length:=by omega):PR Tryz.prog G (.slice t x (some y) (some z) none) (sv ((s.drop i).take (j-i))):=fun a w _ ho hg=>run_sMid ho (hx a w hg) (hy a w hg) (hz a w hg) (und_ok hu) hp hq hi hn
theorem pr {op:Op}(h:PR Tryz.prog G op v:=by first | exact PR.mv | exact PR.as | exact PR.ld | exact PR.fa | exact PR.ext | exact PR.lw | exact PR.ln | exact PR.eqi | exact PR.nei | exact PR.lss | exact PR.gtr | exact PR.geq | exact PR.leq | exact PR.not | exact PR.eqs | exact PR.nes | exact PR.l0 | exact PR.lr | exact PR.pand | exact PR.por | exact PR.fs | exact PR.fq | exact PR.lst | exact PR.nil):PR Tryz.prog G op v:=h
theorem PR.to {op:Op}(h:PR Tryz.prog G op v)(e:v=v2):PR Tryz.prog G op v2:=e▸h
/- from operation to operation -/
variable {ops:Array Oper}{rest:List Oper}{Q:Exit->Act->World->Prop}{X:Act->World->Prop}{op op2 op3 op4 op5 op6:Op}{ty3 ty4 ty5 ty6:TypeId}{ps ps2 ps3 ps4 ps5 ps6:String}{af af2 af3 af4 af5 af6:Array Edge}{d d2 d3 d4 d5 d6:Nat}{v3 v4 v5 v6:Value}{id:Nat}{cc c1 c2:Code}
theorem pp (hp:PR Tryz.prog (St D nt w0 L M R) op v)(k:KX D nt w0 ((d,v)::L) M R (wpList Tryz.prog ops Q rest))(hb:Nat.blt d nt=true:=by rfl):KX D nt w0 L M R (wpList Tryz.prog ops Q (⟨some d,op,ty,ps,af,none⟩::rest)):=fun a w h=>
 sq h.f (wantedS rfl) (hp a w _ rfl h) rfl (Nat.le_of_ble_eq_true hb) fun a2 hF=>k a2 w ⟨hF,h.m,h.r,h.nd⟩
theorem p1 (hp:PR Tryz.prog (St D nt w0 L M R) op v:=by exact pr)(k:KX D nt w0 ((d,v)::L) M R (wpList Tryz.prog ops Q rest))(hb:Nat.blt d nt=true:=by rfl):KX D nt w0 L M R (wpList Tryz.prog ops Q (⟨some d,op,ty,ps,af,none⟩::rest)):=pp hp k hb
end
end
end Go.Proofs.YtdjholkjkbihmaaGreatDoor
