/-
  Parts of the proof: Mload Look Rcatch Rall Mfile Mfile2. By an AI agent.
-/
import Derived.Test.YtmmjgmcfdnkomaaGreatDoorL08
import Derived.Test.YtmmjgmcfdnkomaaGreatDoorL09
import Derived.Test.YtmmjgmcfdnkomaaGreatDoorL01
import Derived.Test.YtmmjgmcfdnkomaaGreatDoorL02
import Derived.Test.YtmmjgmcfdnkomaaGreatDoorL06
import Derived.Test.YtmmjgmcfdnkomaaGreatDoorL05
import Derived.Deep.LoopGhost
import Derived.BigQuiet
import Derived.Deep.RegionLaw
import Derived.Deep.RegionHeld2
import Derived.Defers
import Derived.Recover
set_option maxRecDepth 100000
set_option maxHeartbeats 8000000
namespace Go.Proofs.YtmmjgmcfdnkomaaGreatDoor
section
open Go.RowKit Go.Lib Go.Proofs Go.Shelf
attribute [local go_sem ↓] Go.wp_at_zero Go.wp_at_succ
attribute [local go_sem] Oper.semAt_some
theorem oa (A:Option Addr) (n c:Nat) (w:World):Calls Tryz.prog 15 #[.slice A n c] w fun e w'=>
  e=.returned (.func (.func 22) #[] #[.pointer (some ⟨w.heap.size,0,none⟩)])∧w'=w.alloc (.cells #[.slice A n c] 35):=by have D:∀ (fn:Fn) (first cap:Array Value) (w:World),(Instr.makeFunc fn first cap).run Tryz.prog w=.ok (.func fn first cap) w:=fun _ _ _ _=>rfl;(go_enter Tryz.func15,Tryz.ntmps15);(go_wp2_with fail);go_ret;exact ⟨rfl,rfl⟩
structure an where
 name:ByteArray
 s:ByteArray
 a:Option Addr
 c:Nat
 is:Bool
 xt:ByteArray
 le:Int
 p:Int
def an.fil (x:an):dr:=(x.name,.slice x.a x.s.size x.c)
def an.C (x:an) (w:World):Prop:=iR x.s x.a x.c x.is x.xt x.le x.p w
def ir (l:List ByteArray):List Value:=l.flatMap fun x=>[.string (⟨#[110,97,109,101]⟩:BA),.string x,.int .i64 0]
def dX (mi:Int):List an→List Value→Prop
 | [],xs=>xs=[]
 | x::l,xs=>∃ A c ys,xs=[.string x.name,.int .i64 (cg x.is x.le mi),.int .i64 1,.string (⟨#[109,97,105,110]⟩:BA),.slice A 0 c,.int .i64 x.p]++ys∧dX mi l ys
theorem rZ {n:Nat} {Bx:Nat→Prop} {X Y:World} {B:Nat} {e:TypeId} {size k:Nat} {v:Value} {xs:List Value} (h:X.ownsRow B e size v k xs) (I:Ab n Bx X Y) (K:∀ b,Bx b→b<B):Y.ownsRow B e size v k xs:=by
 refine ⟨h.1,?_⟩;rcases h.2 with M | ⟨g,cap,cur,e,J,D,r⟩
 ·exact .inl M
 ·exact .inr ⟨g,cap,cur,e,J,(I.same g (Array.getElem?_eq_some_iff.1 D).1 (fun hb=>by have:=K g hb;omega) (fun _=>⟨_,_,_,D⟩)).trans D,r⟩
section
variable (l:List an)
def ar (i:Nat):List ByteArray:=((List.range i).filter fun j => !bB (l.map an.fil) j).map (aU (l.map an.fil))
def aE (i:Nat):List an:=((List.range i).filter fun j=>bB (l.map an.fil) j).filterMap fun j=>l[j]?
theorem fq {i:Nat} (h:bB (l.map an.fil) i=true):ar l (i+1)=ar l i:=by unfold ar;rw [List.range_succ,List.filter_append];simp [h]
theorem pJ {i:Nat} (h:bB (l.map an.fil) i=false):ar l (i+1)=ar l i++[aU (l.map an.fil) i]:=by unfold ar;rw [List.range_succ,List.filter_append];simp [h]
theorem ob {i:Nat} (h:bB (l.map an.fil) i=false):aE l (i+1)=aE l i:=by unfold aE;rw [List.range_succ,List.filter_append];simp [h]
theorem ew {i:Nat} (D:i<l.length) (h:bB (l.map an.fil) i=true):aE l (i+1)=aE l i++[l[i]]:=by unfold aE;rw [List.range_succ,List.filter_append];simp [h,D]
theorem lM (i:Nat):(ar l i).length≤i:=by unfold ar;rw [List.length_map];exact Nat.le_trans (List.length_filter_le _ _) (by simp)
theorem iT (i:Nat):(aE l i).length≤i:=by unfold aE;exact Nat.le_trans (List.length_filterMap_le _ _) (Nat.le_trans (List.length_filter_le _ _) (by simp))
end
theorem dX.snoc {mi:Int} : ∀ {l:List an} {xs:List Value} (x:an) (A:Option Addr) (c:Nat),dX mi l xs→dX mi (l++[x]) (xs++[.string x.name,.int .i64 (cg x.is x.le mi),.int .i64 1,.string (⟨#[109,97,105,110]⟩:BA),.slice A 0 c,.int .i64 x.p])
 | [],xs,x,A,c,h=>by unfold dX at h;subst h;exact ⟨A,c,[],by simp,rfl⟩
 | y::l,xs,x,A,c,h=>by obtain ⟨I,c1,ys,rfl,D⟩:=h;exact ⟨I,c1,_,by rw [List.append_assoc],dX.snoc x A c D⟩
theorem Kx.grown {Cx:Nat→Prop} {W W':World} {row:Option Nat} (D:W.grownBy W' row) (I:∀ g,row=some g→Cx g):Kx Cx W W':=
 ⟨⟨D.os,D.tape,D.output,D.size,fun k hk=>absurd hk (Nat.not_lt_zero k)⟩,fun k hk hne=>D.block k hk fun e=>hne (I k e.symm)⟩
theorem dB {w w':World} {B B':Nat} {e e':TypeId} {s s' n n':Nat} {v v':Value} {xs xs':List Value} (h:w.ownsRow B e s v n xs) (h':w.ownsRow B' e' s' v' n' xs') (J:e≠e') (N:w.grownBy w' v.ownBlock):w'.ownsRow B' e' s' v' n' xs':=by
 refine ⟨h'.1,?_⟩;rcases h'.2 with O | ⟨g',cap',cur',Q,K,D,r'⟩
 ·exact .inl O
 ·refine .inr ⟨g',cap',cur',Q,K,(N.block g' (Array.getElem?_eq_some_iff.1 D).1 ?_).trans D,r'⟩;intro I;rcases h.2 with ⟨rfl,_⟩ | ⟨g,cap,cur,rfl,_,M,_⟩
  ·cases I
  ·have I:some g'=some g:=I;injection I with I;subst I;rw [M] at D;injection D with D;injection D with _ ht;exact J ht
theorem bz {w w':World} {B:Nat} {e:TypeId} {s n:Nat} {v:Value} {xs:List Value} (h:w.ownsRow B e s v n xs) (hb:Below w.heap.size w w'):w'.ownsRow B e s v n xs:=by
 refine ⟨h.1,?_⟩;rcases h.2 with J | ⟨g,cap,cur,K,I,D,r⟩
 ·exact .inl J
 ·exact .inr ⟨g,cap,cur,K,I,(hb.block g (Array.getElem?_eq_some_iff.1 D).1).trans D,r⟩
theorem ci {w:World} {B:Nat} {e:TypeId} {s n:Nat} {v:Value} {xs:List Value} (h:w.ownsRow B e s v n xs) {p:Addr} (M:p.block<B) (u:Value):(w.setCell p u).ownsRow B e s v n xs:=by
 refine ⟨h.1,?_⟩;rcases h.2 with J | ⟨g,cap,cur,K,I,D,r⟩
 ·exact .inl J
 ·exact .inr ⟨g,cap,cur,K,I,(Below.heap_setCell w p u g (by omega)).trans D,r⟩
theorem ex {V w3:World} {o:Obj} {row:Option Nat} (D:(V.alloc o).grownBy w3 row):V.grownBy w3 row:=
 ⟨D.os,D.tape,D.output,Nat.le_trans (by rw [World.size_alloc];omega) D.size,fun k hk hne=>(D.block k (by rw [World.size_alloc];omega) hne).trans (Below.heap_alloc V _ k hk)⟩
theorem od (l:List ByteArray) (x:ByteArray):ir (l++[x])=ir l++[.string (⟨#[110,97,109,101]⟩:BA),.string x,.int .i64 0]:=by unfold ir;rw [List.flatMap_append];rfl
theorem r5 {L:List dr} {pre r:List (dr × Bool)} {x:dr × Bool} (h:pre++x::r=cC L):∃ D:pre.length<L.length,x=(L[pre.length],bB L pre.length):=by have I:=congrArg List.length h;rw [cv,List.length_append,List.length_cons] at I;(have D:pre.length<L.length:=by omega);refine ⟨D,?_⟩;rw [←ie L _ D];(have e:(cC L)[pre.length]? = some x:=by rw [←h];simp);rw [List.getElem?_eq_getElem (by rw [cv];exact D)] at e;exact (Option.some.inj e).symm
theorem aW {F:Fence} {nF:Nat} {P:Program} {w:World} {ops:Array Oper} {rest:List Oper} {o:Oper} {a:Act} {Q:Exit→Act→World→Prop} (j:o.guard=none) (s x:Operand) (t:TypeId)
  (U:o.op=.call { callee:=.builtin .append,args:=#[s,x],argTypes:=#[t,t] })
  (base:Nat) (e:TypeId) (i:TypeInfo) (z:Value) (size bytes:Nat) (ht:P.underlying t=some (.slice e)) (hi:P.info? e=some i) (y:i.zero=some z)
  (I:i.size=size) (q:i.bytes=bytes) (O:z.cells.size=size) (S:0<size)
  (v:Value) (n:Nat) (xs:List Value) (hs:a.eval s=v) (N:w.ownsRow base e size v n xs)
  (B:Nat) (A:Option Addr) (m c:Nat) (news:List Value) (hx:a.eval x=.slice A m c) (hr:ae w B size A m news) (h1:∀ u∈news,u.oneCell'=true)
  (r:n+m≤maxLen) (D:(n+m) * bytes≤140737488355328) (J:base≤w.heap.size)
  (h:∀ v' w',w'.ownsRow base e size v' (n+m) (xs++news)→w.grownBy w' v.ownBlock→wpListIn F nF P ops Q rest (a.put o.dst v') w'):wpListIn F nF P ops Q (o::rest) a w:=by refine wpListIn_plain j fun K hK=>?_;obtain ⟨v',w',M,h2,h3,-⟩:=eh (P:=P) w base t o.type e i z size bytes ht hi y I q O S v n xs N B A m c news hr h1 r D J;unfold Oper.wpIn;refine ⟨by simp [Oper.about,U,resolve,Target.leads,Sem.run_pure],?_⟩;rw [Oper.semAt_plain F _ _ (by rw [U];intro c k;cases k)];simp [execOp,U,resolve,invoke,builtin,hs,hx,M,Result.andThen];exact hK _ _ (h v' w' h2 h3)
theorem r6:(Tryz.prog.info? 38).map (fun i=>(i.zero,i.size,i.bytes))=some (some (.agg #[.string ⟨#[]⟩,.string ⟨#[]⟩,.int .i64 0]),3,40):=by kernel_rfl
theorem ut:(Tryz.prog.info? 43).map (fun i=>(i.zero,i.size,i.bytes))=some (some (.agg #[.string ⟨#[]⟩,.int .i64 0,.int .i64 0,.string ⟨#[]⟩,.slice none 0 0,.int .i64 0]),6,80):=by kernel_rfl
theorem oe {w:World} {base base' size n:Nat} {e:TypeId} {v:Value} {xs:List Value} (h:w.ownsRow base e size v n xs) (hb:base'≤base):w.ownsRow base' e size v n xs:=
 ⟨h.1,h.2.elim Or.inl fun ⟨g,cap,cur,D,I,r⟩=>Or.inr ⟨g,cap,cur,D,Nat.le_trans hb I,r⟩⟩
def lN (b:List ByteArray):List ByteArray:=if b=[] then [(⟨#[]⟩:BA)] else b
def r7 (mi:Int) (bads:List ByteArray) (goods:List an) (w:World) (e:Ending) (w':World):Prop:=Below w.heap.size w w' ∧
 ((bads=[]∧goods≠[]∧∃ Au cu xs,e=.returned (.tuple #[.agg #[.string (⟨#[97]⟩:BA),.slice Au goods.length cu],.slice none 0 0])∧ae w' w'.heap.size 6 Au goods.length xs∧dX mi goods xs) ∨
   (¬ (bads=[]∧goods≠[])∧∃ Af cf,e=.returned (.tuple #[.agg #[.string (⟨#[]⟩:BA),.slice none 0 0],.slice Af (lN bads).length cf])∧ae w' w'.heap.size 3 Af (lN bads).length (ir (lN bads))))
theorem oY {w:World} {B:Nat} {e:TypeId} {s n:Nat} {v:Value} {xs:List Value} (h:w.ownsRow B e s v n xs) {D:Nat} (K:w.heap[D]? = some (.deferred (some []))) (o:Obj):(w.putObj D o).ownsRow B e s v n xs:=by
 refine ⟨h.1,?_⟩;rcases h.2 with M | ⟨g,cap,cur,N,J,I,r⟩
 ·exact .inl M
 ·refine .inr ⟨g,cap,cur,N,J,(World.putObj_heap_other ?_).trans I,r⟩;rintro rfl;rw [K] at I;cases I
theorem dY {fn:Func} {q r1:Tmp} (I:fn.results = #[.cell q 31,.tmp r1]) (tmps:Array Value) {w:World} {g:Nat} {a b v1:Value} (N:tmps.getD q undef=.pointer (some ⟨g,0,none⟩)) (O:tmps.getD r1 undef=v1) (hb:ac w g 31 #[a,b]) :
  (results fn tmps).run Tryz.prog w=.ok (.tuple #[.agg #[a,b],v1]) w:=by have M:w.cell? ⟨g,0,none⟩=some a:=(hb.cell 0).trans rfl;have K:w.cell? ⟨g,1,none⟩=some b:=(hb.cell 1).trans rfl;unfold results;rw [I];(have D:tmps[q]?.getD undef=.pointer (some ⟨g,0,none⟩):=by simpa using N);(have J:tmps[r1]?.getD undef=v1:=by simpa using O);simp [D,J,go_sem,M,K]
def tJ (bs:List ByteArray) (gs:List an) (es:List ByteArray):Prop:=¬ (bs=[]∧gs≠[])∧lN bs=es
theorem pK {mi:Int} {bs es:List ByteArray} {gs:List an} {w w':World} {A:Option Addr} {c:Nat} (h:tJ bs gs es) (hb:Below w.heap.size w w') (D:ae w' w'.heap.size 3 A es.length (ir es)) :
  r7 mi bs gs w (.returned (.tuple #[.agg #[.string (⟨#[]⟩:BA),.slice none 0 0],.slice A es.length c])) w':=by obtain ⟨I,rfl⟩:=h;exact ⟨hb,.inr ⟨I,A,c,rfl,D⟩⟩
theorem r8 (k0:Nat) (l:List an) (A:Option Addr) (c:Nat) (Am:Option Addr) (cm:Nat) (sm:ByteArray) (ls:List (List ByteArray)) (w:World) (j6:sm.size≤65536) (ht:aL w Am cm sm) (hT:ay w) (jc:ev sm=ls) (jo:ls=[dA]∨ls=[dA,iq])
  (hr:ae w w.heap.size 2 A l.length (cB (l.map an.fil))) (hl:l.length≤64) (hz:∀ x∈l,x.name.size≤1000) (hS:lI (l.map an.fil)) (hU:∀ i (h:i<l.length),bB (l.map an.fil) i=true→l[i].C w) :
  CallsIn Fence.wide k0 Tryz.prog 9 #[.slice Am sm.size cm,.slice A l.length c,.slice none 0 0] w (r7 (e8 ls.length).2.1 (ar l l.length) (aE l l.length) w):=by
 (have g7:∀ k:Nat,((Fence.wide).depth.isSome=true→1≤k):=fun k h=>by cases h);have kg:decide ((64:Int)<(l.length:Int))=false:=decide_eq_false (by omega);have gw:Below w.heap.size w (((w.alloc (.cells #[.slice none 0 0] 24)).alloc (.cells #[.string (⟨#[]⟩:BA),.slice none 0 0] 31)).alloc (.cells #[.string (⟨#[109,111,100]⟩:BA),.string (⟨#[]⟩:BA),.int .i64 0] 38)):=bel;have jj:ac (((w.alloc (.cells #[.slice none 0 0] 24)).alloc (.cells #[.string (⟨#[]⟩:BA),.slice none 0 0] 31)).alloc (.cells #[.string (⟨#[109,111,100]⟩:BA),.string (⟨#[]⟩:BA),.int .i64 0] 38)) w.heap.size 24 #[.slice none 0 0]:=((ac.new w _ _).alloc _).alloc _;have jl:ac (((w.alloc (.cells #[.slice none 0 0] 24)).alloc (.cells #[.string (⟨#[]⟩:BA),.slice none 0 0] 31)).alloc (.cells #[.string (⟨#[109,111,100]⟩:BA),.string (⟨#[]⟩:BA),.int .i64 0] 38)) (w.heap.size+1) 31 #[.string (⟨#[]⟩:BA),.slice none 0 0]:=(ac.new_at (by simp) _ _).alloc _;obtain ⟨mi,jb⟩:∃ mi,mi=(e8 ls.length).2.1:=⟨_,rfl⟩;have HV:=hid (fun k=>n9 k Am cm sm j6 _ (ht.below gw) (hT.below gw) ls jc jo);rw [←jb] at HV ⊢;have HR:=hid hr;have HT:=hid hT;have HU:=hid hU;have HS:=hid hS;have HZ:=hid hz;clear ht hT jc jo jb hr hU hS hz;refine callsIn_of_wp_marks Tryz.func9 rfl trivial ?_ rfl;simp only [Tryz.ntmps9,List.size_toArray,List.length_cons,List.length_nil,Nat.reduceAdd,Nat.reduceSub,Array.replicate_succ,Array.replicate_zero,List.push_toArray,List.append_toArray,List.nil_append,List.cons_append]
 gi_wp2
 refine ⟨trivial,g7 _,(HV.out _).mono ?_⟩;rintro e I ⟨rfl,gl⟩;have jh:=ah gw gl;(have kf:w.heap.size+3≤I.heap.size:=by have:=gl.size;simp at this;omega);have ji:=jj.bl gl;have jk:=jl.bl gl;clear gw jj jl HV gl
 gi_wp2
 refine ⟨trivial,g7 _,(callsIn_wide.2 (oa A l.length c _)).mono ?_⟩;rintro e J ⟨rfl,rfl⟩;(have g5:(((I.alloc (.cells #[.string (⟨#[97]⟩:BA),.int .i64 mi] 56)).alloc (.cells #[.slice none 0 0] 32)).alloc (.cells #[.string (⟨#[97]⟩:BA),.slice none 0 0] 31)).heap.size=I.heap.size+1+1+1:=by simp);rw [g5];have gv:Below I.heap.size I ((((I.alloc (.cells #[.string (⟨#[97]⟩:BA),.int .i64 mi] 56)).alloc (.cells #[.slice none 0 0] 32)).alloc (.cells #[.string (⟨#[97]⟩:BA),.slice none 0 0] 31)).alloc (.cells #[.slice A l.length c] 35)):=bel;have g9:=ah jh gv;have j9:=ji.bl gv;have gm:=jk.bl gv;have ka:ac ((((I.alloc (.cells #[.string (⟨#[97]⟩:BA),.int .i64 mi] 56)).alloc (.cells #[.slice none 0 0] 32)).alloc (.cells #[.string (⟨#[97]⟩:BA),.slice none 0 0] 31)).alloc (.cells #[.slice A l.length c] 35)) I.heap.size 56 #[.string (⟨#[97]⟩:BA),.int .i64 mi]:=(((ac.new I _ _).alloc _).alloc _).alloc _;have kb:ac ((((I.alloc (.cells #[.string (⟨#[97]⟩:BA),.int .i64 mi] 56)).alloc (.cells #[.slice none 0 0] 32)).alloc (.cells #[.string (⟨#[97]⟩:BA),.slice none 0 0] 31)).alloc (.cells #[.slice A l.length c] 35)) (I.heap.size+1) 32 #[.slice none 0 0]:=((ac.new_at (by simp) _ _).alloc _).alloc _;have gn:ac ((((I.alloc (.cells #[.string (⟨#[97]⟩:BA),.int .i64 mi] 56)).alloc (.cells #[.slice none 0 0] 32)).alloc (.cells #[.string (⟨#[97]⟩:BA),.slice none 0 0] 31)).alloc (.cells #[.slice A l.length c] 35)) (I.heap.size+1+1) 31 #[.string (⟨#[97]⟩:BA),.slice none 0 0]:=(ac.new_at (by simp) _ _).alloc _;have jm:=ac.new_at g5 35 #[.slice A l.length c];(have kk:((((I.alloc (.cells #[.string (⟨#[97]⟩:BA),.int .i64 mi] 56)).alloc (.cells #[.slice none 0 0] 32)).alloc (.cells #[.string (⟨#[97]⟩:BA),.slice none 0 0] 31)).alloc (.cells #[.slice A l.length c] 35)).heap.size=I.heap.size+4:=by simp);generalize (((I.alloc (.cells #[.string (⟨#[97]⟩:BA),.int .i64 mi] 56)).alloc (.cells #[.slice none 0 0] 32)).alloc (.cells #[.string (⟨#[97]⟩:BA),.slice none 0 0] 31)).alloc (.cells #[.slice A l.length c] 35)=J at *;clear g5 gv ji jk;have ki:=jh.size;have j4:=g9.size;have hw:=nY A c (l.map an.fil) J (by rw [List.length_map];exact (HR.out.below g9).more j4) (fun x hx=>by obtain ⟨y,-,rfl⟩:=List.mem_map.1 hx;exact ⟨_,_,_,rfl⟩) (by rw [List.length_map];omega) (fun x hx=>by obtain ⟨y,hy,rfl⟩:=List.mem_map.1 hx;exact HZ.out y hy) HS.out _ (by rw [List.length_map];exact jm) (fun k=>k=I.heap.size+1∨k=I.heap.size+1+1∨J.heap.size+4≤k);clear jm HR HS HZ
 gi_wp2
 refine eO (encs:=fun x:dr × Bool => #[eQ x.1,.bool x.2]) (val:=fun x=>x) rfl mW hw nofun (by rintro k (h | h | h) <;> omega) (fun _=>rfl)
  (fun pre V=>ac V w.heap.size 24 #[.slice none 0 0]∧ac V (w.heap.size+1) 31 #[.string (⟨#[]⟩:BA),.slice none 0 0]∧ac V I.heap.size 56 #[.string (⟨#[97]⟩:BA),.int .i64 mi] ∧
   (∃ fv,ac V (I.heap.size+1) 32 #[fv]∧V.ownsRow (J.heap.size+4) 38 3 fv (ar l pre.length).length (ir (ar l pre.length))) ∧
   (∃ uv xs,ac V (I.heap.size+1+1) 31 #[.string (⟨#[97]⟩:BA),uv]∧V.ownsRow (J.heap.size+4) 43 6 uv (aE l pre.length).length xs∧dX mi (aE l pre.length) xs)∧Below w.heap.size w V)
  (fun x a' V=>∃ k,a' = { tmps:=#[.slice Am sm.size cm,.slice A l.length c,.slice none 0 0,undef,undef,.pointer (some ⟨w.heap.size,0,none⟩),.pointer (some ⟨w.heap.size+1,0,none⟩),.slice none 0 0,.slice (some ⟨w.heap.size+1+1,0,none⟩) 1 1,.pointer (some ⟨I.heap.size,0,none⟩),.int .i64 0,.pointer (some ⟨I.heap.size+1,0,none⟩),.pointer (some ⟨I.heap.size+1+1,0,none⟩),.pointer (some ⟨k,0,none⟩),.bool x.2,undef,undef,undef,.agg #[.string (⟨#[109,111,100]⟩:BA),.string (⟨#[]⟩:BA),.int .i64 0],.slice (some ⟨w.heap.size+1+1,0,none⟩) 1 1,.slice A l.length c,.int .i64 l.length,.bool false,undef,undef,.tuple #[.agg #[.string (⟨#[97]⟩:BA),.int .i64 mi],.int .i64 0],.slice Am sm.size cm,.tuple #[.agg #[.string (⟨#[97]⟩:BA),.int .i64 mi],.int .i64 0],.agg #[.string (⟨#[97]⟩:BA),.int .i64 mi],.int .i64 0,.int .i64 0,.bool false,undef,.pointer (some ⟨I.heap.size,0,none⟩),.string (⟨#[97]⟩:BA),.agg #[.string (⟨#[97]⟩:BA),.slice none 0 0],.slice A l.length c,.func (.func 22) #[] #[.pointer (some ⟨I.heap.size+1+1+1,0,none⟩)],.agg #[.string x.1.1,x.1.2],.bool x.2,undef,undef,undef,undef,undef,undef,undef,undef,undef,undef,undef,undef,undef,undef,undef,undef,undef,undef,undef,undef,undef,undef,undef,undef,undef,undef,undef,undef,undef,undef,undef,undef,undef,undef,undef,undef,undef,undef,undef,undef,undef,undef,undef,undef,undef,undef],defers:=[] } ∧ ac V k 46 #[.string x.1.1,x.1.2]∧∃ A n c,x.1.2=Value.slice A n c)
  ?keep ?keepx ⟨j9,gm,ka,⟨_,kb,World.ownsRow_nil _ _ _ _⟩,⟨_,_,gn,World.ownsRow_nil _ _ _ _,rfl⟩,g9⟩ ?assign ?body ?done
 case keep=>
  rintro s' X Y ⟨h1,O,h3,⟨fv,h4,h5⟩,⟨uv,xs,h6,h7,h8⟩,h9⟩ S;have hx:∀ b,(False∨(J.heap.size+2≤b∧b<J.heap.size+2+2))→J.heap.size+2≤b∧b<J.heap.size+4:=fun b h=>h.elim nofun id;exact ⟨S.blk h1 (fun h=>by have:=hx _ h;omega),S.blk O (fun h=>by have:=hx _ h;omega),S.blk h3 (fun h=>by have:=hx _ h;omega),⟨fv,S.blk h4 (fun h=>by have:=hx _ h;omega),rZ h5 S fun b h=>(hx b h).2⟩,
   ⟨uv,xs,S.blk h6 (fun h=>by have:=hx _ h;omega),rZ h7 S fun b h=>(hx b h).2,h8⟩,S.belowOf h9 (by omega) (fun b h=>by have:=hx _ h;omega)⟩
 case keepx=>rintro x a' X Y ⟨k,h1,O,h3⟩ S;exact ⟨k,h1,S.blk O (fun h=>h),h3⟩
 case assign=>
  rintro l' pre ⟨⟨nm,va⟩,b⟩ V G hi ⟨bA,bn,bc,gk⟩ hG;simp only at gk;subst gk;unfold eQ
  gi_wp2
  have hb:Below V.heap.size V (V.alloc (.cells #[.string nm,.slice bA bn bc] 46)):=bel;obtain ⟨h1,O,h3,⟨fv,h4,h5⟩,⟨uv,xs,h6,h7,h8⟩,h9⟩:=hi;exact hG _ _ (Kx.below hb) ⟨h1.bl hb,O.bl hb,h3.bl hb,⟨fv,h4.bl hb,World.ownsRow.alloc h5 _⟩,⟨uv,xs,h6.bl hb,World.ownsRow.alloc h7 _,h8⟩,ah h9 hb⟩ ⟨_,rfl,ac.new _ _ _,_,_,_,rfl⟩
 case body=>
  rintro l' pre ⟨⟨nm,va⟩,b⟩ r a' V hx ⟨h1,O,h3,⟨fv,h4,h5⟩,⟨uv,xs,h6,h7,h8⟩,h9⟩ ⟨k,rfl,hk,bA,bn,bc,gk⟩ hl' hvz;simp only at gk hx hk;subst gk;rw [List.map_id'] at hx;obtain ⟨jg,gu⟩:=r5 hx;(have gz:pre.length<l.length:=by simpa using jg);injection gu with gj hxe2;have jv:=hid (show (pre++[(((nm,.slice bA bn bc):dr),b)]).length=pre.length+1 by simp);have kc:=hid (show aU (l.map an.fil) pre.length=nm by rw [bM _ _ jg,←gj]);have jt:=hid gj;have gp:=hid hxe2.symm;clear gj hxe2 hx;have j8:=lM l pre.length;have j7:=iT l pre.length;have p0:=aA h4;have pf:=h4.frozen 0;have k0:=(hk.cell 0).trans rfl;have H5:=hid h5;have H7:=hid h7;have H8:=hid h8;have H9:=hid h9;clear h5 h7 h8 h9;obtain ⟨i0,hi,gi,gh,o⟩:=info_parts r6;cases b with
  | false=>
   have j:=hid (show ae (V.alloc (.cells #[.string (⟨#[110,97,109,101]⟩:BA),.string nm,.int .i64 0] 38)) (V.heap.size+1) 3 (some ⟨V.heap.size,0,none⟩) 1 [.string (⟨#[110,97,109,101]⟩:BA),.string nm,.int .i64 0] from aX (cs:=[.string (⟨#[110,97,109,101]⟩:BA),.string nm,.int .i64 0]) (heap_alloc_new V _) rfl (Nat.lt_succ_self _));have gb:=hid (show ∀ u∈[Value.string (⟨#[110,97,109,101]⟩:BA),.string nm,.int .i64 0],u.oneCell'=true from fun u hu=>by simp only [List.mem_cons,List.not_mem_nil,or_false] at hu;rcases hu with rfl | rfl | rfl <;> rfl)
   gi_wp2_with (gi_at_builtin;refine aW rfl (.tmp 42) (.tmp 46) 32 rfl (J.heap.size+4) 38 i0 _ 3 40 Tryz.underlying32 hi gi gh o rfl (by omega) fv _ _ rfl (World.ownsRow.alloc H5.out _) (V.heap.size+1) (some ⟨V.heap.size,0,none⟩) 1 1 [.string (⟨#[110,97,109,101]⟩:BA),.string nm,.int .i64 0] rfl j.out gb.out (by unfold maxLen;omega) (by omega) (by rw [World.size_alloc];omega) ?_;intro v' w3 hown3 hg3;obtain ⟨M,c3,rfl,-⟩:=bG hown3;have ga:=(h4.alloc (.cells #[.string (⟨#[110,97,109,101]⟩:BA),.string nm,.int .i64 0] 38)).grown hg3 (by intro e;have:=World.ownsRow.lt H5.out _ e.symm;omega);have p1:=aA ga;have gg:=ga.frozen 0)
   have U:∀ g,fv.ownBlock=some g→J.heap.size+4≤g:=fun g h=>(World.ownsRow.lt H5.out g h).1;have K:=ex hg3;(have ne:∀ b,b<J.heap.size+4→some b≠fv.ownBlock:=fun b hb e=>by have:=U b e.symm;omega);have q1:=(h1.grown K (ne _ (by omega))).far (p:=⟨I.heap.size+1,0,none⟩) (by show w.heap.size≠I.heap.size+1;omega) (.slice M ((ar l pre.length).length+1) c3);have q2:=(O.grown K (ne _ (by omega))).far (p:=⟨I.heap.size+1,0,none⟩) (by show w.heap.size+1≠I.heap.size+1;omega) (.slice M ((ar l pre.length).length+1) c3);have q3:=(h3.grown K (ne _ (by omega))).far (p:=⟨I.heap.size+1,0,none⟩) (by show I.heap.size≠I.heap.size+1;omega) (.slice M ((ar l pre.length).length+1) c3);have q4:=ga.set_ 0 (.slice M ((ar l pre.length).length+1) c3);have q5:=ci hown3 (p:=⟨I.heap.size+1,0,none⟩) (by show I.heap.size+1<J.heap.size+4;omega) (.slice M ((ar l pre.length).length+1) c3);have q6:=(h6.grown K (ne _ (by omega))).far (p:=⟨I.heap.size+1,0,none⟩) (by show I.heap.size+1+1≠I.heap.size+1;omega) (.slice M ((ar l pre.length).length+1) c3);have q7:=ci (dB H5.out H7.out (by decide) K) (p:=⟨I.heap.size+1,0,none⟩) (by show I.heap.size+1<J.heap.size+4;omega) (.slice M ((ar l pre.length).length+1) c3);have qK:=(Kx.grown (Cx:=fun k=>k=I.heap.size+1∨k=I.heap.size+1+1∨J.heap.size+4≤k) K fun g h=>.inr (.inr (U g h))).trans (Kx.setCell (Cx:=fun k=>k=I.heap.size+1∨k=I.heap.size+1+1∨J.heap.size+4≤k) w3 (.inl rfl) 0 (.slice M ((ar l pre.length).length+1) c3));refine ⟨qK,?_⟩;dsimp only;rw [jv.out,pJ l gp.out,ob l gp.out,kc.out,od,List.length_append];exact ⟨q1,q2,q3,⟨_,by simpa using q4,q5⟩,⟨uv,xs,q6,q7,H8.out⟩,H9.out.trans (qK.to_below (by omega) (by rintro k (h | h | h) <;> omega))⟩
  | true=>
   have kd:=hid (ew l gz gp.out);have HC:=hid ((HU.out _ gz gp.out).below H9.out);(have gu:((nm,.slice bA bn bc):dr)=l[pre.length].fil:=by have:=jt.out;rw [List.getElem_map] at this;exact this);generalize l[pre.length]=y at *;unfold an.fil at gu;injection gu with e1 e2;injection e2 with e2 e3 e4;subst e1 e2 e3 e4;have ho:=hid (tE y.name y.s y.a y.c y.is y.xt y.le y.p mi V HC.out);unfold eQ uc at ho;have k1:=(hk.cell 1).trans rfl;have m1:=(h3.cell 1).trans rfl;have t0:=aA h1;clear HC jt
   gi_wp2
   refine ⟨trivial,g7 _,(CallsIn.inRound l' (callsIn_wide.2 ho.out)).mono ?_⟩;rintro e w3 ⟨A2,c2,rfl,Q⟩;have g1:=h1.bl Q;have g2:=O.bl Q;have g3:=h3.bl Q;have g4:=h4.bl Q;have g6:=h6.bl Q;have j1:=hid (bz H5.out Q);have jz:=hid (bz H7.out Q);have jx:=hid (Kx.below (Cx:=fun k=>k=I.heap.size+1∨k=I.heap.size+1+1∨J.heap.size+4≤k) Q);have kj:=Q.size;clear h1 O h3 h4 h6 H5 H7 Q p0 pf k0 k1 m1 t0 ho hk;have z:Below w3.heap.size w3 (w3.alloc (.cells #[.string y.name,.int .i64 (cg y.is y.le mi),.int .i64 1,.string (⟨#[109,97,105,110]⟩:BA),.slice A2 0 c2,.int .i64 y.p] 43)):=bel;have js:=g1.bl z;have jr:=g2.bl z;have jq:=g3.bl z;have gy:=g4.bl z;have jp:=g6.bl z;have gq:=hid (bz j1.out z);have jy:=hid (bz jz.out z);have jw:=hid (jx.out.trans (Kx.below z));have ha:=ac.new w3 43 #[.string y.name,.int .i64 (cg y.is y.le mi),.int .i64 1,.string (⟨#[109,97,105,110]⟩:BA),.slice A2 0 c2,.int .i64 y.p];(have j3:(w3.alloc (.cells #[.string y.name,.int .i64 (cg y.is y.le mi),.int .i64 1,.string (⟨#[109,97,105,110]⟩:BA),.slice A2 0 c2,.int .i64 y.p] 43)).heap.size=w3.heap.size+1:=by simp);clear g1 g2 g3 g4 g6 j1 jz jx z;have p0:=aA gy;have pf:=gy.frozen 0
   gi_upto_region 15 with fail
   generalize w3.alloc (.cells #[.string y.name,.int .i64 (cg y.is y.le mi),.int .i64 1,.string (⟨#[109,97,105,110]⟩:BA),.slice A2 0 c2,.int .i64 y.p] 43)=V4 at *;(have j5:J.heap.size+4≤V4.heap.size:=by omega);have U:∀ g,fv.ownBlock=some g→J.heap.size+4≤g:=fun g h=>(World.ownsRow.lt gq.out g h).1;(have ne:∀ b,b<J.heap.size+4→some b≠fv.ownBlock:=fun b hb e=>by have:=U b e.symm;omega);have N:=hid ne;have ju:=hid (nI gq.out ha (by decide));clear ne
   gi_upto_region 17 with (gi_at_builtin;refine aW rfl (.tmp 57) (.tmp 58) 32 rfl (J.heap.size+4) 38 i0 _ 3 40 Tryz.underlying32 hi gi gh o rfl (by omega) fv _ _ rfl gq.out 0 none 0 0 [] rfl ae.none_ nofun (by unfold maxLen;omega) (by omega) (by omega) ?_;intro v' w5 hown5 hg5;obtain ⟨M,c3,rfl,-⟩:=bG hown5;have gx:=gy.grown hg5 (N.out _ (by omega));have p1:=aA gx;have gg:=gx.frozen 0)
   have e1:=(js.grown hg5 (N.out _ (by omega))).far (p:=⟨I.heap.size+1,0,none⟩) (by show w.heap.size≠I.heap.size+1;omega) (.slice M ((ar l pre.length).length+0) c3);have e2:=(jr.grown hg5 (N.out _ (by omega))).far (p:=⟨I.heap.size+1,0,none⟩) (by show w.heap.size+1≠I.heap.size+1;omega) (.slice M ((ar l pre.length).length+0) c3);have e3:=(jq.grown hg5 (N.out _ (by omega))).far (p:=⟨I.heap.size+1,0,none⟩) (by show I.heap.size≠I.heap.size+1;omega) (.slice M ((ar l pre.length).length+0) c3);have e4:=gx.set_ 0 (.slice M ((ar l pre.length).length+0) c3);have E5:=hid (ci hown5 (p:=⟨I.heap.size+1,0,none⟩) (by show I.heap.size+1<J.heap.size+4;omega) (.slice M ((ar l pre.length).length+0) c3));have e6:=(jp.grown hg5 (N.out _ (by omega))).far (p:=⟨I.heap.size+1,0,none⟩) (by show I.heap.size+1+1≠I.heap.size+1;omega) (.slice M ((ar l pre.length).length+0) c3);have E7:=hid (ci (dB gq.out jy.out (by decide) hg5) (p:=⟨I.heap.size+1,0,none⟩) (by show I.heap.size+1<J.heap.size+4;omega) (.slice M ((ar l pre.length).length+0) c3));have eU:=(ha.grown hg5 (fun e=>ju.out e.symm)).far (p:=⟨I.heap.size+1,0,none⟩) (by show w3.heap.size≠I.heap.size+1;omega) (.slice M ((ar l pre.length).length+0) c3);have EK:=hid ((jw.out.trans (Kx.grown (Cx:=fun k=>k=I.heap.size+1∨k=I.heap.size+1+1∨J.heap.size+4≤k) hg5 fun g h=>.inr (.inr (U g h)))).trans (Kx.setCell (Cx:=fun k=>k=I.heap.size+1∨k=I.heap.size+1+1∨J.heap.size+4≤k) w5 (.inl rfl) 0 (.slice M ((ar l pre.length).length+0) c3)));have j2:=EK.out.bel.size;clear js jr jq gy jp gq jy jw ha j3 j5 hown5 hg5 gx p0 pf p1 gg U N ju i0 hi gi gh o;simp only [Nat.add_zero,List.append_nil] at e1 e2 e3 e4 E5 e6 E7 eU EK j2;(have e4:ac (w5.setCell ⟨I.heap.size+1,0,none⟩ (.slice M (ar l pre.length).length c3)) (I.heap.size+1) 32 #[.slice M (ar l pre.length).length c3]:=by simpa using e4);generalize w5.setCell ⟨I.heap.size+1,0,none⟩ (.slice M (ar l pre.length).length c3)=V6 at *;obtain ⟨j0,hj,jf,je,jd⟩:=info_parts ut;have jn:∀ g,uv.ownBlock=some g→J.heap.size+4≤g:=fun g h=>(World.ownsRow.lt E7.out g h).1;(have ne:∀ b,b<J.heap.size+4→some b≠uv.ownBlock:=fun b hb e=>by have:=jn b e.symm;omega);have N:=hid ne;have j:=hid (show ae (V6.alloc (.cells #[.string y.name,.int .i64 (cg y.is y.le mi),.int .i64 1,.string (⟨#[109,97,105,110]⟩:BA),.slice A2 0 c2,.int .i64 y.p] 43)) (V6.heap.size+1) 6 (some ⟨V6.heap.size,0,none⟩) 1 [.string y.name,.int .i64 (cg y.is y.le mi),.int .i64 1,.string (⟨#[109,97,105,110]⟩:BA),.slice A2 0 c2,.int .i64 y.p] from aX (cs:=[.string y.name,.int .i64 (cg y.is y.le mi),.int .i64 1,.string (⟨#[109,97,105,110]⟩:BA),.slice A2 0 c2,.int .i64 y.p]) (heap_alloc_new V6 _) rfl (Nat.lt_succ_self _));have gb:=hid (show ∀ u∈([.string y.name,.int .i64 (cg y.is y.le mi),.int .i64 1,.string (⟨#[109,97,105,110]⟩:BA),.slice A2 0 c2,.int .i64 y.p]:List Value),u.oneCell'=true from fun u hu=>by simp only [List.mem_cons,List.not_mem_nil,or_false] at hu;rcases hu with rfl | rfl | rfl | rfl | rfl | rfl <;> rfl);have o1:=(e6.cell 1).trans rfl;have kh:=e6.frozen 1;have u0:=(eU.cell 0).trans rfl;have u1:=(eU.cell 1).trans rfl;have u2:=(eU.cell 2).trans rfl;have u3:=(eU.cell 3).trans rfl;have u4:=(eU.cell 4).trans rfl;have u5:=(eU.cell 5).trans rfl;clear ne
   gi_wp2_with (gi_at_builtin;refine aW rfl (.tmp 62) (.tmp 64) 29 rfl (J.heap.size+4) 43 j0 _ 6 80 Tryz.underlying29 hj jf je jd rfl (by omega) uv _ _ rfl (World.ownsRow.alloc E7.out _) (V6.heap.size+1) (some ⟨V6.heap.size,0,none⟩) 1 1 [.string y.name,.int .i64 (cg y.is y.le mi),.int .i64 1,.string (⟨#[109,97,105,110]⟩:BA),.slice A2 0 c2,.int .i64 y.p] rfl j.out gb.out (by unfold maxLen;omega) (by omega) (by rw [World.size_alloc];omega) ?_;intro v' w7 hown7 hg7;obtain ⟨A4,c4,rfl,-⟩:=bG hown7;have he:=(e6.alloc (.cells #[.string y.name,.int .i64 (cg y.is y.le mi),.int .i64 1,.string (⟨#[109,97,105,110]⟩:BA),.slice A2 0 c2,.int .i64 y.p] 43)).grown hg7 (N.out _ (by omega));have p1:=(he.cell 1).trans rfl;have gg:=he.frozen 1)
   have K:=ex hg7;have q1:=(e1.grown K (N.out _ (by omega))).far (p:=⟨I.heap.size+1+1,1,none⟩) (by show w.heap.size≠I.heap.size+1+1;omega) (.slice A4 ((aE l pre.length).length+1) c4);have q2:=(e2.grown K (N.out _ (by omega))).far (p:=⟨I.heap.size+1+1,1,none⟩) (by show w.heap.size+1≠I.heap.size+1+1;omega) (.slice A4 ((aE l pre.length).length+1) c4);have q3:=(e3.grown K (N.out _ (by omega))).far (p:=⟨I.heap.size+1+1,1,none⟩) (by show I.heap.size≠I.heap.size+1+1;omega) (.slice A4 ((aE l pre.length).length+1) c4);have q4:=(e4.grown K (N.out _ (by omega))).far (p:=⟨I.heap.size+1+1,1,none⟩) (by show I.heap.size+1≠I.heap.size+1+1;omega) (.slice A4 ((aE l pre.length).length+1) c4);have q5:=ci (dB E7.out E5.out (by decide) K) (p:=⟨I.heap.size+1+1,1,none⟩) (by show I.heap.size+1+1<J.heap.size+4;omega) (.slice A4 ((aE l pre.length).length+1) c4);have q6:=he.set_ 1 (.slice A4 ((aE l pre.length).length+1) c4);have q7:=ci hown7 (p:=⟨I.heap.size+1+1,1,none⟩) (by show I.heap.size+1+1<J.heap.size+4;omega) (.slice A4 ((aE l pre.length).length+1) c4);have qK:=(EK.out.trans (Kx.grown (Cx:=fun k=>k=I.heap.size+1∨k=I.heap.size+1+1∨J.heap.size+4≤k) K fun g h=>.inr (.inr (jn g h)))).trans (Kx.setCell (Cx:=fun k=>k=I.heap.size+1∨k=I.heap.size+1+1∨J.heap.size+4≤k) w7 (.inr (.inl rfl)) 1 (.slice A4 ((aE l pre.length).length+1) c4));refine ⟨qK,?_⟩;dsimp only;rw [jv.out,fq l gp.out,kd.out,List.length_append];exact ⟨q1,q2,q3,⟨_,q4,q5⟩,⟨_,_,by simpa using q6,q7,dX.snoc y A2 c2 H8.out⟩,H9.out.trans (qK.to_below (by omega) (by rintro k (h | h | h) <;> omega))⟩
 case done=>
  rintro D ys V hD hys ⟨h1,O,h3,⟨fv,h4,h5⟩,⟨uv,xs,h6,h7,h8⟩,h9⟩ hK;rw [List.map_id'] at hys;(have hs:ys.length=l.length:=by rw [hys,cv,List.length_map]);rw [hs] at h5 h7 h8;have j8:=lM l l.length;have j7:=iT l l.length;generalize ar l l.length=bs at *;generalize aE l l.length=gs at *;clear hs hys HU h1 h3;obtain ⟨Af,cf,rfl,km⟩:=bG h5;obtain ⟨Au,cu,rfl,kl⟩:=bG h7;have f0:=aA h4;have ff:=h4.frozen 0;have o0:=(h6.cell 0).trans rfl;have o1:=(h6.cell 1).trans rfl;have r0:=(O.cell 0).trans rfl;have r1:=(O.cell 1).trans rfl;have gt:=O.frozen 0;have gr:=O.frozen 1;have H8:=hid h8;have H5:=hid h5;have H7:=hid h7;clear h8 h5 h7;(have o:w.heap.size+1<J.heap.size:=by omega);(have kn:J.heap.size≤V.heap.size:=by have:=(Array.getElem?_eq_some_iff.1 hK).1;omega);have H5:=hid (oe H5.out (Nat.le_add_right J.heap.size 4));have H7:=hid (oe H7.out (Nat.le_add_right J.heap.size 4));(have key:(bs=[]∧gs=[])∨(bs=[]∧gs≠[])∨(bs≠[]∧gs.length=0)∨(bs≠[]∧gs.length≠0):=by by_cases h1:bs=[] <;> by_cases O:gs=[] <;> simp [h1,O]);rcases key with ⟨rfl,rfl⟩ | ⟨rfl,gd⟩ | ⟨q,gd⟩ | ⟨q,gd⟩
  rotate_left 1
  ·have K:0<gs.length:=List.length_pos_iff.2 gd;(have b1:((gs.length:Int)==0)=false:=by rw [beq_eq_false_iff_ne];omega);(have b4:(gs.length==0)=false:=by rw [beq_eq_false_iff_ne];omega);have ke:=hid gd;clear gd
   gi_wp2
   (have gm:ac ((V.setCell ⟨w.heap.size+1,0,none⟩ (.string (⟨#[97]⟩:BA))).setCell ⟨w.heap.size+1,1,none⟩ (.slice Au gs.length cu)) (w.heap.size+1) 31 #[.string (⟨#[97]⟩:BA),.slice Au gs.length cu]:=by simpa using (O.set_ 0 (.string (⟨#[97]⟩:BA))).set_ 1 (.slice Au gs.length cu));have gn:=ci (ci H7.out (p:=⟨w.heap.size+1,0,none⟩) o (.string (⟨#[97]⟩:BA))) (p:=⟨w.heap.size+1,1,none⟩) o (.slice Au gs.length cu);have hm:=(h9.setCell (p:=⟨w.heap.size+1,0,none⟩) (Nat.le_succ _) (.string (⟨#[97]⟩:BA))).setCell (p:=⟨w.heap.size+1,1,none⟩) (Nat.le_succ _) (.slice Au gs.length cu);have ge:((V.setCell ⟨w.heap.size+1,0,none⟩ (.string (⟨#[97]⟩:BA))).setCell ⟨w.heap.size+1,1,none⟩ (.slice Au gs.length cu)).heap[D]? = some (.deferred (some [])):=
    (Below.heap_setCell _ ⟨w.heap.size+1,1,none⟩ _ D (by show D≠w.heap.size+1;omega)).trans ((Below.heap_setCell _ ⟨w.heap.size+1,0,none⟩ _ D (by show D≠w.heap.size+1;omega)).trans hK)
   generalize (V.setCell ⟨w.heap.size+1,0,none⟩ (.string (⟨#[97]⟩:BA))).setCell ⟨w.heap.size+1,1,none⟩ (.slice Au gs.length cu)=V2 at *;have hc:ac (V2.putObj D (.deferred none)) (w.heap.size+1) 31 #[.string (⟨#[97]⟩:BA),.slice Au gs.length cu]:=(World.putObj_heap_other (by omega)).trans gm;have U:=hm.trans (belowK_b (w:=w) (Nat.le_refl _) V2 D _ (.deferred none) (by omega) ge rfl rfl);have hf:=oY gn ge (.deferred none);refine ⟨by simp,.inl ⟨_,_,rfl,run_takeDeferred ge,?_⟩⟩;exact ⟨_,dY rfl _ rfl rfl hc,U,.inl ⟨rfl,ke.out,Au,cu,xs,rfl,ae.of_own hf,H8.out⟩⟩
  have g8:0<bs.length:=List.length_pos_iff.2 q;(have b1:((bs.length:Int)==0)=false:=by rw [beq_eq_false_iff_ne];omega);(have b4:(bs.length==0)=false:=by rw [beq_eq_false_iff_ne];omega);(have b5:((gs.length:Int)==0)=true:=by rw [beq_iff_eq];omega);(have b6:(gs.length==0)=true:=by rw [beq_iff_eq];omega);have b2:decide ((0:Int)<(bs.length:Int))=true:=decide_eq_true (by omega);have b3:decide (0<bs.length)=true:=decide_eq_true g8;have hp:=hid (show tJ bs gs bs from ⟨fun h=>q h.1,by unfold lN;rw [if_neg q]⟩);clear q gd
  focus gi_upto_region 21 with fail
  have q2:=O;have q4:=h4;have Q5:=hid H5.out;have q9:=h9;have qK:=hK;clear O h4 h6 H5 H7 h9 hK f0 ff o0 o1 r0 r1 gt gr;obtain ⟨X,rfl⟩:∃ X,X=V:=⟨_,rfl⟩
  rotate_left
  have g8:0<bs.length:=List.length_pos_iff.2 q;(have b1:((bs.length:Int)==0)=false:=by rw [beq_eq_false_iff_ne];omega);(have b4:(bs.length==0)=false:=by rw [beq_eq_false_iff_ne];omega);(have b5:((gs.length:Int)==0)=false:=by rw [beq_eq_false_iff_ne];omega);(have b6:(gs.length==0)=false:=by rw [beq_eq_false_iff_ne];omega);have b2:decide ((0:Int)<(bs.length:Int))=true:=decide_eq_true (by omega);have b3:decide (0<bs.length)=true:=decide_eq_true g8;have hp:=hid (show tJ bs gs bs from ⟨fun h=>q h.1,by unfold lN;rw [if_neg q]⟩);clear q gd
  focus gi_upto_region 21 with fail
  have q2:=O;have q4:=h4;have Q5:=hid H5.out;have q9:=h9;have qK:=hK;clear O h4 h6 H5 H7 h9 hK f0 ff o0 o1 r0 r1 gt gr;obtain ⟨X,rfl⟩:∃ X,X=V:=⟨_,rfl⟩
  rotate_left
  have j:=hid (show ae (V.alloc (.cells #[.string (⟨#[110,97,109,101]⟩:BA),.string (⟨#[]⟩:BA),.int .i64 0] 38)) (V.heap.size+1) 3 (some ⟨V.heap.size,0,none⟩) 1 [.string (⟨#[110,97,109,101]⟩:BA),.string (⟨#[]⟩:BA),.int .i64 0] from aX (cs:=[.string (⟨#[110,97,109,101]⟩:BA),.string (⟨#[]⟩:BA),.int .i64 0]) (heap_alloc_new V _) rfl (Nat.lt_succ_self _));have gb:=hid (show ∀ u∈[Value.string (⟨#[110,97,109,101]⟩:BA),.string (⟨#[]⟩:BA),.int .i64 0],u.oneCell'=true from fun u hu=>by simp only [List.mem_cons,List.not_mem_nil,or_false] at hu;rcases hu with rfl | rfl | rfl <;> rfl);obtain ⟨i0,hi,gi,gh,hq⟩:=info_parts r6
  focus gi_upto_region 20 with (gi_at_builtin;refine aW rfl (.tmp 76) (.tmp 78) 32 rfl J.heap.size 38 i0 _ 3 40 Tryz.underlying32 hi gi gh hq rfl (by omega) (.slice Af 0 cf) 0 [] rfl (World.ownsRow.alloc H5.out _) (V.heap.size+1) (some ⟨V.heap.size,0,none⟩) 1 1 [.string (⟨#[110,97,109,101]⟩:BA),.string (⟨#[]⟩:BA),.int .i64 0] rfl j.out gb.out (by unfold maxLen;omega) (by omega) (by rw [World.size_alloc];omega) ?_;intro v' w3 hown3 hg3;obtain ⟨M,c3,rfl,-⟩:=bG hown3;have ga:=(h4.alloc (.cells #[.string (⟨#[110,97,109,101]⟩:BA),.string (⟨#[]⟩:BA),.int .i64 0] 38)).grown hg3 (by intro e;have:=World.ownsRow.lt H5.out _ e.symm;omega);have p1:=aA ga;have gg:=ga.frozen 0)
  have K:=ex hg3;(have ja:∀ b,b<J.heap.size→some b≠(Value.slice Af 0 cf).ownBlock:=fun b hb e=>by have:=(World.ownsRow.lt H5.out b e.symm).1;omega);have hp:=hid (show tJ [] [] [(⟨#[]⟩:BA)] from ⟨fun h=>h.2 rfl,rfl⟩);have q2:=(O.grown K (ja _ o)).far (p:=⟨I.heap.size+1,0,none⟩) (by show w.heap.size+1≠I.heap.size+1;omega) (.slice M (0+1) c3);have Q5:=hid (show ((w3.setCell ⟨I.heap.size+1,0,none⟩ (.slice M (0+1) c3)).ownsRow J.heap.size 38 3 (.slice M ([(⟨#[]⟩:BA)]:List ByteArray).length c3) ([(⟨#[]⟩:BA)]:List ByteArray).length (ir [(⟨#[]⟩:BA)])) from ci hown3 (p:=⟨I.heap.size+1,0,none⟩) (by show I.heap.size+1<J.heap.size;omega) (.slice M (0+1) c3));have q9:=((h9.alloc h9.size _).grown hg3 (by have:=h9.size;rw [World.size_alloc];omega) (fun g hg=>by have:=(World.ownsRow.lt H5.out g hg).1;omega)).setCell (p:=⟨I.heap.size+1,0,none⟩) (by show w.heap.size≤I.heap.size+1;omega) (.slice M (0+1) c3);have hn:=ga.set_ 0 (.slice M (0+1) c3);have g0:some D≠(Value.slice Af 0 cf).ownBlock:=fun e=>by
   rcases (show V.ownsRow J.heap.size 38 3 (.slice Af 0 cf) 0 [] from H5.out).2 with ⟨h0,_⟩ | ⟨g,cap,cur,hv,_,hh,_⟩
   ·rw [h0] at e;cases e
   ·rw [hv] at e;have e:some D=some g:=e;injection e with e;subst e;rw [hK] at hh;cases hh
  have qK:(w3.setCell ⟨I.heap.size+1,0,none⟩ (.slice M (0+1) c3)).heap[D]? = some (.deferred (some [])):=
   (Below.heap_setCell _ ⟨I.heap.size+1,0,none⟩ _ D (by show D≠I.heap.size+1;omega)).trans ((K.block D (Array.getElem?_eq_some_iff.1 hK).1 g0).trans hK)
  simp only [Nat.zero_add] at q2 Q5 q9 qK hn;(have q4:ac (w3.setCell ⟨I.heap.size+1,0,none⟩ (.slice M 1 c3)) (I.heap.size+1) 32 #[.slice M ([(⟨#[]⟩:BA)]:List ByteArray).length c3]:=by simpa using hn);clear O h4 h6 H5 H7 h9 hK f0 ff o0 o1 r0 r1 gt gr hg3 K hown3 ga p1 gg hn j ja g0;generalize w3.setCell ⟨I.heap.size+1,0,none⟩ (.slice M 1 c3)=X at *;have f0:X.cell? ⟨I.heap.size+1,0,none⟩=some (.slice M 1 c3):=aA q4
  focus gi_upto_region 21 with fail
  clear f0
  rotate_left
  all_goals
   have r0:=(q2.cell 0).trans rfl;have r1:=(q2.cell 1).trans rfl;have gt:=q2.frozen 0;have gr:=q2.frozen 1;have f0:=aA q4
   gi_region
   gi_wp2
   (have gm:ac ((X.setCell ⟨w.heap.size+1,0,none⟩ (.string (⟨#[]⟩:BA))).setCell ⟨w.heap.size+1,1,none⟩ (.slice none 0 0)).drew (w.heap.size+1) 31 #[.string (⟨#[]⟩:BA),.slice none 0 0]:=by simpa using ((q2.set_ 0 (.string (⟨#[]⟩:BA))).set_ 1 (.slice none 0 0)).bl (Below.refl _ _).drew);have gn:=bz (ci (ci Q5.out (p:=⟨w.heap.size+1,0,none⟩) o (.string (⟨#[]⟩:BA))) (p:=⟨w.heap.size+1,1,none⟩) o (.slice none 0 0)) (Below.refl _ _).drew;have hm:=((q9.setCell (p:=⟨w.heap.size+1,0,none⟩) (Nat.le_succ _) (.string (⟨#[]⟩:BA))).setCell (p:=⟨w.heap.size+1,1,none⟩) (Nat.le_succ _) (.slice none 0 0)).drew;have ge:((X.setCell ⟨w.heap.size+1,0,none⟩ (.string (⟨#[]⟩:BA))).setCell ⟨w.heap.size+1,1,none⟩ (.slice none 0 0)).drew.heap[D]? = some (.deferred (some [])):=
    (Below.heap_setCell _ ⟨w.heap.size+1,1,none⟩ _ D (by show D≠w.heap.size+1;omega)).trans ((Below.heap_setCell _ ⟨w.heap.size+1,0,none⟩ _ D (by show D≠w.heap.size+1;omega)).trans qK)
   generalize ((X.setCell ⟨w.heap.size+1,0,none⟩ (.string (⟨#[]⟩:BA))).setCell ⟨w.heap.size+1,1,none⟩ (.slice none 0 0)).drew=V2 at *;have hc:ac (V2.putObj D (.deferred none)) (w.heap.size+1) 31 #[.string (⟨#[]⟩:BA),.slice none 0 0]:=(World.putObj_heap_other (by omega)).trans gm;have U:=hm.trans (belowK_b (w:=w) (Nat.le_refl _) V2 D _ (.deferred none) (by omega) ge rfl rfl);have hf:=oY gn ge (.deferred none);refine ⟨by simp,.inl ⟨_,_,rfl,run_takeDeferred ge,?_⟩⟩;exact ⟨_,dY rfl _ rfl rfl hc,pK hp.out U (ae.of_own hf)⟩
end
section
open Go.RowKit Go.Lib Go.Proofs
attribute [local go_sem ↓] Go.wp_at_zero Go.wp_at_succ
attribute [local go_sem] bU bV bW
def mm:ByteArray:=(⟨#[32,60,60,61,32,62,62,61,32,38,94,61,32,46,46,46,32,43,61,32,45,61,32,42,61,32,47,61,32,37,61,32,38,61,32,124,61,32,94,61,32,60,60,32,62,62,32,38,94,32,60,45,32,38,32,94,32,58,32]⟩:BA)
def oz (s:ByteArray):Bool:=match fH s with
 | some x=>decide (x.size≤1000)
 | none=>false
def lR (t:aV):Bool := !(decide (t.kind=3))&&(!(decide (t.kind=6)&&Lib.contains mm.data.toList ((⟨#[32]⟩++t.text++⟨#[32]⟩:ByteArray)).data.toList)&&(!(decide (t.kind=2)&&(t.text.toList==[105,109,112,111,114,116])) &&
 ((!(decide (t.kind=4))||cG t.text)&&((!(decide (t.kind=5))||oz t.text)&&(decide (t.kind=5)||t.text.data.toList.all (fun c=>c != 32))))))
theorem oA (A:Option Addr) (c:Nat) (l:List aV) (w:World) (hr:ae w w.heap.size 3 A l.length (l.flatMap fI)) (hl:l.length≤1000000) (hT:cI w) (hz:∀ t∈l,t.text.size≤65536) (r:l.all lR=true) :
  Calls Tryz.prog 94 #[.slice A l.length c] w fun e w'=>e=.returned (.tuple #[.int .i64 0,.int .i64 0])∧Below w.heap.size w w':=by
 have HR:=hid hr;have HT:=hid hT;have HZ:=hid hz;have HG:=hid (List.all_eq_true.1 r);clear hr hT hz r;(go_enter Tryz.func94,Tryz.ntmps94);(go_wp2_with fail);go_loopg [5,12] l.length (fun g _ u12 wr=>∃ i:Nat,i≤l.length∧l.length-i≤g∧u12=.int .i64 (i:Int)∧Below w.heap.size w wr)
 case atStart=>exact ⟨0,Nat.zero_le _,by omega,rfl,Below.refl _ _⟩
 case round=>
  obtain ⟨i,hi,hg,rfl,h⟩:=hrel;by_cases D:i<l.length
  ·(have K:(i:Int)<(l.length:Int):=by omega);have gd:=h.size;(have h0:(0:Int)≤(i:Int):=by omega);obtain ⟨bk,off,k,ga,I⟩:=(HR.out.below h).el cT (by omega) rfl D;subst k;have q:=I i D 0 _ rfl;have k1:=I i D 1 _ rfl;have k2:=I i D 2 _ rfl;simp only [Nat.add_zero] at q;have j:=HZ.out _ (List.getElem_mem D);have J:=HG.out _ (List.getElem_mem D);clear I;generalize l[i]=t at *;obtain ⟨tk,tt,tp⟩:=t;simp only at q k1 k2 j;unfold lR at J;simp only [Bool.and_eq_true,Bool.not_eq_true',decide_eq_false_iff_not] at J;obtain ⟨h3,O,o,-,-⟩:=J;(have e3:(tk==3)=false:=by rw [beq_eq_false_iff_ne];exact h3);by_cases z:tk=6
   ·subst z;have y:=hid (fun w' (hb:Below w.heap.size w w')=>ba mm (⟨#[32]⟩++tt++⟨#[32]⟩) w' (HT.out.below hb).tab (Nat.le_trans (show mm.size≤100 by decide +kernel) (by omega)));rw [decide_eq_true rfl,Bool.true_and] at O;rw [O] at y;clear h3 e3 O o;(go_wp2_with fail);refine (y.out _ fd).mono ?_;rintro e w2 ⟨rfl,rfl⟩;(go_wp2_with fail);go_roundg (l.length-(i+1))
    case measure=>omega
    case rel=>exact ⟨i+1,by omega,Nat.le_refl _,by go_num,fd⟩
   (have e6:(tk==6)=false:=by rw [beq_eq_false_iff_ne];exact z);by_cases h2:tk=2
   ·subst h2;rw [decide_eq_true rfl,Bool.true_and] at o;clear h3 e3 z e6 O;(go_wp2_with fail);go_roundg (l.length-(i+1))
    case measure=>omega
    case rel=>exact ⟨i+1,by omega,Nat.le_refl _,by go_num,fd⟩
   (have e2:(tk==2)=false:=by rw [beq_eq_false_iff_ne];exact h2);clear h3 z h2 o O;(go_wp2_with fail);go_roundg (l.length-(i+1))
   case measure=>omega
   case rel=>exact ⟨i+1,by omega,Nat.le_refl _,by go_num,fd⟩
  ·(have K:¬ (i:Int)<(l.length:Int):=by omega);clear hi D;(go_wp2_with fail);go_loopg [7,8,9,46] l.length (fun g _ _ _ u46 wy=>∃ i:Nat,i≤l.length∧l.length-i≤g∧u46=.int .i64 (i:Int)∧Below w.heap.size w wy)
   case atStart=>exact ⟨0,Nat.zero_le _,by omega,rfl,h⟩
   case round=>
    clear K h;obtain ⟨i,hi,hg,rfl,h⟩:=hrel;by_cases D:i<l.length
    ·(have K:(i:Int)<(l.length:Int):=by omega);have gd:=h.size;(have h0:(0:Int)≤(i:Int):=by omega);obtain ⟨bk,off,k,ga,I⟩:=(HR.out.below h).el cT (by omega) rfl D;subst k;have q:=I i D 0 _ rfl;have k1:=I i D 1 _ rfl;have k2:=I i D 2 _ rfl;simp only [Nat.add_zero] at q;have j:=HZ.out _ (List.getElem_mem D);have J:=HG.out _ (List.getElem_mem D);clear I;generalize l[i]=t at *;obtain ⟨tk,tt,tp⟩:=t;simp only at q k1 k2 j;unfold lR at J;simp only [Bool.and_eq_true] at J;obtain ⟨-,-,-,U,M,-⟩:=J;by_cases h4:tk=4
     ·subst h4;have gg:=hid (fun w'=>ot tt w' (by simpa using U));clear U M;(go_wp2_with fail);refine (gg.out _).mono ?_;rintro e w2 ⟨rfl,S⟩;have N:Below w.heap.size w w2:=Below.trans fd (S.mono (by simp;omega));have u:=N.size;(go_wp2_with fail);go_roundg (l.length-(i+1))
      case measure=>omega
      case rel=>exact ⟨i+1,by omega,Nat.le_refl _,by go_num,N⟩
     (have e4:(tk==4)=false:=by rw [beq_eq_false_iff_ne];exact h4);by_cases h5:tk=5
     ·subst h5;clear h4 U;cases Q:fH tt with
      | none=>simp [oz,Q] at M
      | some x=>
       (have M:x.size≤1000:=by simpa [oz,Q] using M);have ge:=hid (fun w' (gb:Below w.heap.size w w')=>na tt x w' (HT.out.below gb) Q);(have hd:decide ((1000:Int)<(x.size:Int))=false:=by rw [decide_eq_false_iff_not];omega);clear Q M;(go_wp2_with fail);refine (ge.out _ fd).mono ?_;rintro e w2 ⟨rfl,S⟩;have N:Below w.heap.size w w2:=Below.trans fd (S.mono (by simp;omega));have u:=N.size;clear S;(go_wp2_with fail);go_roundg (l.length-(i+1))
       case measure=>omega
       case rel=>exact ⟨i+1,by omega,Nat.le_refl _,by go_num,N⟩
     (have e5:(tk==5)=false:=by rw [beq_eq_false_iff_ne];exact h5);clear h4 h5 U M;(go_wp2_with fail);go_roundg (l.length-(i+1))
     case measure=>omega
     case rel=>exact ⟨i+1,by omega,Nat.le_refl _,by go_num,fd⟩
    ·(have K:¬ (i:Int)<(l.length:Int):=by omega);(go_wp2_with fail);go_ret2;exact ⟨rfl,h⟩
end
section
open Go.RowKit Go.Lib Go.Proofs
attribute [local go_sem ↓] Go.wp_at_zero Go.wp_at_succ
attribute [local go_sem] bU bV bW dg dh di dk
theorem ss (p q r:Addr) (w:World) :
  CallsD Tryz.prog 95 #[.pointer (some p),.pointer (some q),.pointer (some r)] .returning w fun e u' w'=>e=.returned (.tuple #[])∧u'=.returning∧w'=w:=by
 refine callsD_of_wpS Tryz.func95 rfl fun c₀ cs D=>?_;apply wpS_seq;apply wpS_region;simp [wpOpsS,go_sem,recoverD,D,Tryz.ntmps95,Exit.thenS];apply wpS_seq;apply wpS_region;simp [wpOpsS,go_sem,Exit.thenS];refine wpS_cond (t:=false) (by simp [Act.eval,Array.replicate]) ?_;simp only [Bool.false_eq_true,if_false];refine wpS_of_wp (wp_skip ?_);cases c₀
 simp_all [bodyPostS,results,Tryz.results95]
theorem tO (v:Value) (w:World):(Instr.typeAssert (.iface 169 v) 20 169 true).run Tryz.prog w=.ok (.tuple #[v,.bool true]) w:=by kernel_rfl
attribute [local go_sem] tO
theorem ay.grown {w w':World} {R:Nat} (h:ay w) (I:w.grownBy w' (some R)) (D:0≠R):ay w':=by obtain ⟨m,h⟩:=h;exact ⟨m,(World.cell?_of_block (I.block _ (World.block_lt_of_cell? w _ h) (fun e=>D (by injection e)))).trans h⟩
def Whole (E:de) (w:World) (n:Nd) (e:Ending) (w':World):Prop:=
 (∃ v,e=.returned (.tuple #[v,.int .i64 0,.int .i64 0])∧av (fun b=>w.heap.size≤b) w' v n)∧w.grownBy w' (some E.R)
def Deep (E:de) (w:World) (e:Ending) (w':World):Prop:=e=.returned (.tuple #[.agg l6,.int .i64 0,.int .i64 11])∧w.grownBy w' (some E.R)
theorem sO {E:de} {s:St} {w w1:World} {a0 b0 c0 d0 y z:Value} (M:ac w1 w.heap.size 41 #[a0,b0,c0,d0]) (K:ac w1 (w.heap.size+1) 3 #[y]) (J:ac w1 (w.heap.size+2) 57 #[z]) (I:aD E s w w1) (D:E.R<w.heap.size) (a b c d:Value) :
  ∃ w2,fe w1 w.heap.size a b c d=w2∧ac w2 w.heap.size 41 #[a,b,c,d]∧ac w2 (w.heap.size+1) 3 #[y]∧ac w2 (w.heap.size+2) 57 #[z]∧aD E s w w2∧aI (fun b=>w.heap.size+3≤b) w1 w2:=by have far:∀ {g t cs},ac w1 g t cs→g≠w.heap.size→ac (fe w1 w.heap.size a b c d) g t cs:=fun h hg=>(((h.far (p:=⟨w.heap.size,0,none⟩) hg a).far (p:=⟨w.heap.size,1,none⟩) hg b).far (p:=⟨w.heap.size,2,none⟩) hg c).far (p:=⟨w.heap.size,3,none⟩) hg d;exact ⟨_,rfl,eo M a b c d,far K (by omega),far J (by omega),iJ I (Nat.le_refl _) D a b c d,fg (X:=fun b=>w.heap.size+3≤b) (wk:=w1) (g:=w.heap.size) (fun b hb=>by have hb:w.heap.size+3≤b:=hb;omega) a b c d⟩
theorem ug {E:de} {s:St} {w w1:World} {a0 b0 c0 d0 y z:Value} (U:ac w1 w.heap.size 41 #[a0,b0,c0,d0]) (S:ac w1 (w.heap.size+1) 3 #[y]) (Q:ac w1 (w.heap.size+2) 57 #[z]) (O:aD E s w w1) (N:E.R<w.heap.size) (a b c d:Value) (x:Int) :
  ∃ w2,((fe w1 w.heap.size a b c d).setCell ⟨w.heap.size+1,0,none⟩ (.int .i64 0)).setCell ⟨w.heap.size+1+1,0,none⟩ (.int .i64 x)=w2∧ac w2 w.heap.size 41 #[a,b,c,d]∧ac w2 (w.heap.size+1) 3 #[.int .i64 0]∧ac w2 (w.heap.size+2) 57 #[.int .i64 x]∧aD E s w w2∧aI (fun b=>w.heap.size+3≤b) w1 w2:=by
 obtain ⟨h,rfl,M,K,J,kM,kX⟩:=sO U S Q O N a b c d;have I:=K.set_ 0 (.int .i64 0);have D:=(J.far (p:=⟨w.heap.size+1,0,none⟩) (by show w.heap.size+2≠w.heap.size+1;omega) (.int .i64 0)).set_ 0 (.int .i64 x);exact ⟨_,rfl,(M.far (by show w.heap.size≠w.heap.size+1;omega) _).far (by show w.heap.size≠w.heap.size+1+1;omega) _,by simpa using I.far (p:=⟨w.heap.size+1+1,0,none⟩) (by show w.heap.size+1≠w.heap.size+1+1;omega) (.int .i64 x),by simpa using D,
  (kM.own (by show w.heap.size≤w.heap.size+1;omega) (by show E.R<w.heap.size+1;omega) _).own (by show w.heap.size≤w.heap.size+1+1;omega) (by show E.R<w.heap.size+1+1;omega) _,
  (kX.setCell (p:=⟨w.heap.size+1,0,none⟩) (fun hb=>by have hb:w.heap.size+3≤w.heap.size+1:=hb;omega) _).setCell (p:=⟨w.heap.size+1+1,0,none⟩) (fun hb=>by have hb:w.heap.size+3≤w.heap.size+1+1:=hb;omega) _⟩
theorem tV (E:de) (k:FuncId) (first cap:Array Value) (part:R Nd) (s s1:St) (n:Nd) (w:World) (h:aO E w s)
  (hk:∀ a w,(callFunc k a).run Tryz.prog w=.ok (.enter k a) w) (hp:mB E k (first++cap) part w) (hP:part E.c s=.ok n s1) (gm:s1.at_=E.c.toks.length) (hT:ay w) (hR:0≠E.R)
  (sort:ByteArray) (ok:Bool) (hr:∀ w v,ay w→bo w v n→Calls Tryz.prog 97 #[v,.string sort] w fun e w'=>e=.returned (.bool ok)∧Below w.heap.size w w') :
  Calls Tryz.prog 59 #[.pointer (some ⟨E.R,0,none⟩),.string sort,.func (.func k) first cap] w (cond ok (Whole E w n) (Deep E w)):=by
 have g3:∀ (fn:Fn) (first cap:Array Value) (w:World),(Instr.makeFunc fn first cap).run Tryz.prog w=.ok (.func fn first cap) w:=fun _ _ _ _=>rfl;have O:=h.lt;have o:=(((aD.refl h).alloc (.cells l6 41)).alloc (.cells #[.int .i64 0] 3)).alloc (.cells #[.int .i64 0] 57);have gs:ac (((w.alloc (.cells l6 41)).alloc (.cells #[.int .i64 0] 3)).alloc (.cells #[.int .i64 0] 57)) w.heap.size 41 l6:=((ac.new w _ _).alloc _).alloc _;have gq:ac (((w.alloc (.cells l6 41)).alloc (.cells #[.int .i64 0] 3)).alloc (.cells #[.int .i64 0] 57)) (w.heap.size+1) 3 #[.int .i64 0]:=(ac.new_at (by simp) _ _).alloc _;have gp:ac (((w.alloc (.cells l6 41)).alloc (.cells #[.int .i64 0] 3)).alloc (.cells #[.int .i64 0] 57)) (w.heap.size+2) 57 #[.int .i64 0]:=ac.new_at (by simp) _ _;have HC:=hid (hp _ s o.gr o.rd (by rw [hP];exact nofun));rw [hP] at HC;have gu:=hid hT;have g0:=hid hr;have gz:=hid hR;have g1:=hid gm;clear hp hP hr hT hR gm;(go_enter_defers Tryz.func59,Tryz.ntmps59);(go_wp2_with fail);refine HC.out.mono ?_;rintro e w1 ⟨⟨v,rfl,hv⟩,M⟩;obtain ⟨A,cp,rfl,hC⟩:=hv.toC;have U:=gs.grown M.gr;have z:=gq.grown M.gr;have u:=gp.grown M.gr;have gn:=o.trans M;(have gw:(((w.alloc (.cells l6 41)).alloc (.cells #[.int .i64 0] 3)).alloc (.cells #[.int .i64 0] 57)).heap.size=w.heap.size+3:=by simp);have gv:=M.gr.size;rw [gw] at gv hv;obtain ⟨d0,d1,d2,d3,e0,e1,e2,e3⟩:=aJ U;obtain ⟨w2,gx,K,S,Q,j,gl⟩:=sO U z u gn O (.int .i64 n.kind) (.string n.text) (.slice A n.kids.length cp) (.int .i64 n.pos);subst gx;have gd:=hv.kept gl;clear gl;obtain ⟨c0,c1,-,-,-,-⟩:=j.rd.cells;rw [g1.out] at c1;unfold fe at c0 c1 K S Q j gd;clear gn;clear U z u M;clear gs gq gp;clear o;clear HC hC;clear hv;(go_upto_region 3 with fail);generalize (((w1.setCell ⟨w.heap.size,0,none⟩ (.int .i64 n.kind)).setCell ⟨w.heap.size,1,none⟩ (.string n.text)).setCell ⟨w.heap.size,2,none⟩ (.slice A n.kids.length cp)).setCell ⟨w.heap.size,3,none⟩ (.int .i64 n.pos)=w2 at *;clear d0 d1 d2 d3 e0 e1 e2 e3;(go_wp2_with fail);go_quiet (fail);have gj:=gd.below ((ab (Below.refl _ w2) nq));have gh:=j.drewN nq;have gt:=hid (gu.out.grown gh.gr gz.out);obtain ⟨x0,x1,x2,x3,-,-,-,-⟩:=aJ (K.drewN nq);have y:=S.drewN nq;have r:=Q.drewN nq;have gb:=K.drewN nq;have gi:=hid gj;clear gd j K S Q c0 c1 gj;generalize w2.drewN nq=w3 at *;(go_wp2_with fail);refine (g0.out _ _ gt.out gi.out.wide).mono ?_;rintro e w4 ⟨rfl,N⟩;have gy:=hid (gi.out.below N);have gg:=gh.step N;have J:=gb.bl N;have I:=y.bl N;have D:=r.bl N;have g2:=gg.gr.size;clear N gh gb y r gi gt x0 x1 x2 x3;obtain ⟨x0,x1,x2,x3,y0,y1,y2,y3⟩:=aJ J;have z0:=aA I;have z1:=I.frozen 0;have u0:=aA D;have u1:=D.frozen 0;cases ok
 case' false=>obtain ⟨w7,e7,ga,x,q,ge,gk⟩:=ug J I D gg O (.int .i64 0) (.string ⟨#[]⟩) (.slice none 0 0) (.int .i64 0) 11
 case' true=>obtain ⟨w7,e7,ga,x,q,ge,gk⟩:=ug J I D gg O (.int .i64 n.kind) (.string n.text) (.slice A n.kids.length cp) (.int .i64 n.pos) 0
 all_goals unfold fe at e7;have E7:=hid e7;clear e7 J I D;(go_wp2_with fail);rw [E7.out];refine leaves_cons (f:=95) (args:=#[.pointer (some ⟨w.heap.size,0,none⟩),.pointer (some ⟨w.heap.size+1,0,none⟩),.pointer (some ⟨w.heap.size+1+1,0,none⟩)]) (by simp) (by simp [go_sem]) ?_;refine (ss _ _ _ _).mono ?_;rintro e u' w8 ⟨rfl,rfl,rfl⟩;clear x0 x1 x2 x3 y0 y1 y2 y3 z0 z1 u0 u1;obtain ⟨x0,x1,x2,x3,-,-,-,-⟩:=aJ ga;have z0:=aA x;have u0:=aA q;simp [Leaves,settle,results,Tryz.results59,go_sem,x0,x1,x2,x3,z0,show _=some _ from u0]
 ·exact ⟨⟨_,rfl,(gy.out.kept gk).mono fun b hb _=>by have hb:w.heap.size+3≤b:=hb;omega⟩,ge.gr⟩
 ·exact ⟨rfl,ge.gr⟩
end
section
open Go.RowKit Go.Lib Go.Proofs
attribute [local go_sem ↓] Go.wp_at_zero Go.wp_at_succ
attribute [local go_sem] dg dh di dk
structure uW (E:de) (w:World) (s:ByteArray) (L:List aV):Prop where
 c:E.c=⟨L,(s.size:Int)⟩
 at_:aO E w ⟨0,false,-1⟩
 base:E.w0.heap.size≤E.R
 tab:cI E.w0
 small:∀ t∈E.c.toks,t.text.size≤65536
 few:L.length≤65537
 good:L.all lR=true
theorem tW (k:Option Addr) (c:Nat) (s:ByteArray) (w:World) (q:aL w k c s) (U:cI w) (L:List aV) (N:List aV) (J:fT s=some (L,N)) (r:L.all lR=true) (o:∀ t∈L,t.text.size≤65536) (K:L.length≤65537) :
  Calls Tryz.prog 58 #[.slice k s.size c] w fun e w'=>∃ E:de,e=.returned (.tuple #[.pointer (some ⟨E.R,0,none⟩),.int .i64 0,.int .i64 0])∧uW E w' s L∧w.heap.size≤E.R∧Below w.heap.size w w':=by have z:=hid (eB k c s w q U (L,N) J);have y:=hid U;have x:=hid o;have HG:=hid r;clear q U J r o;(go_enter Tryz.func58,Tryz.ntmps58);(go_wp2_with fail);refine z.out.mono ?_;rintro e w1 ⟨A,cp,rfl,S,Q,u⟩;have M:=hid (oA A cp L w1 Q (by omega) (y.out.below u) x.out HG.out);have HR:=hid Q;clear z Q;(go_wp2_with fail);refine M.out.mono ?_;rintro e O ⟨rfl,D⟩;have I:=ah u D;have j:=hid (HR.out.below D);have h:=hid (y.out.below I);clear M HR;(go_wp2_with fail);go_ret3;refine ⟨⟨O.heap.size,A,cp,⟨L,(s.size:Int)⟩,O⟩,rfl,⟨rfl,⟨ac.new _ _ _,?_,Nat.zero_le _,by show L.length≤1000000;omega,S,fun b hb=>Below.heap_alloc O _ b hb⟩,Nat.le_refl _,h.out,x.out,K,HG.out⟩,I.size,I.alloc I.size _⟩;exact lO (j.out.below ((Below.refl w1.heap.size O).alloc D.size _)) D.size
theorem lw {fn:Func} {q r1 r2:Tmp} (I:fn.results = #[.cell q 41,.tmp r1,.tmp r2]) (tmps:Array Value) {w:World} {g:Nat} {a b c d v1 v2:Value} (M:tmps.getD q undef=.pointer (some ⟨g,0,none⟩)) (O:tmps.getD r1 undef=v1) (N:tmps.getD r2 undef=v2) (hb:ac w g 41 #[a,b,c,d]) :
  (results fn tmps).run Tryz.prog w=.ok (.tuple #[.agg #[a,b,c,d],v1,v2]) w:=by obtain ⟨h,U,S,Q,-,-,-,-⟩:=aJ hb;unfold results;rw [I];(have D:tmps[q]?.getD undef=.pointer (some ⟨g,0,none⟩):=by simpa using M);(have K:tmps[r1]?.getD undef=v1:=by simpa using O);(have J:tmps[r2]?.getD undef=v2:=by simpa using N);simp [D,K,J,go_sem,h,U,S,Q]
theorem oF (a:Array Value) (w:World):(callFunc 60 a).run Tryz.prog w=.ok (.enter 60 a) w:=by kernel_rfl
end
section
open Go.RowKit Go.Lib Go.Proofs
attribute [local go_sem ↓] Go.wp_at_zero Go.wp_at_succ
attribute [local go_sem] bU bV bW dg dh di dk
def ij (p:Int) (x:ByteArray):R Nd:=fun c s=>if eX c s then (if s.at_+1=c.toks.length then .ok (.mk 1 x [] p) (dH s) else .out) else .out
def lX:R Nd:=fun c s=>(ui (⟨#[112,97,99,107,97,103,101]⟩:BA) c s).bind fun _ s1=>(oR c s1).bind fun x s2=>ij (th c s) x c s2
theorem p5 (E:de):ry E lX 60:=by
 intro w s h hno;generalize hres:lX E.c s=res at *;have I:=hid hres;have N:=hid hno;have u:=h.lt;have ga:=(aD.refl h).alloc (.cells l6 41);clear hres hno;(go_enter Tryz.func60,Tryz.ntmps60);(go_wp2_with fail);refine (iI E s _ (h.alloc _)).mono ?_;unfold mA;rintro e w1 ⟨rfl,S⟩;have r:=(ac.new w 41 l6).below S (by simp);have o:=ga.step S;have gk:=r.lt;clear S ga;(go_wp2_with fail);cases hA:nO E.c s (⟨#[112,97,99,107,97,103,101]⟩:BA) with
 | false=>exact absurd (show res=.out by rw [←I.out,lX,ui];simp [hA]) N.out
 | true=>
  have HE:=hid (show (oR E.c (dH s)).bind (fun x s2=>ij (th E.c s) x E.c s2)=res by rw [←I.out,lX,ui];simp only [hA,if_true,nN.bind_ok]);refine (rq E s _ _ o.rd hA).mono ?_;rintro e w2 ⟨rfl,K⟩;have gh:=r.grown K.gr;have k:=o.trans K;have gq:=K.gr.size;clear I hA r o K;(go_wp2_with fail);by_cases hN:(bh E.c (dH s).at_).kind=1
  case neg=>exact absurd (show res=.out by rw [←HE.out,oR,if_neg hN];rfl) N.out
  have O:=hid (show ij (th E.c s) (bh E.c (dH s).at_).text E.c (dH (dH s))=res by rw [←HE.out,oR,if_pos hN];rfl);refine (ru E (dH s) _ k.rd hN).mono ?_;rintro e w3 ⟨rfl,J⟩;have gg:=gh.grown J.gr;have z:=k.trans J;have gp:=J.gr.size;clear HE hN gh k J;generalize (bh E.c (dH s).at_).text=tx at *;generalize hpp:th E.c s=p at *;rw [show (bh E.c s.at_).pos=p from hpp];clear hpp;(go_wp2_with fail);refine (rv _ _ _ _ _ ⟨_,_,_,rfl⟩).mono ?_;rintro e w4 ⟨rfl,Q⟩;have q:=gg.bl Q;have y:=z.step Q;have gj:=q.lt;clear Q z gg;have gb:=ac.new w4 41 #[.int .i64 1,.string tx,.slice none 0 0,.int .i64 p];have ge:=q.alloc (.cells #[.int .i64 1,.string tx,.slice none 0 0,.int .i64 p] 41);have j:=y.alloc (.cells #[.int .i64 1,.string tx,.slice none 0 0,.int .i64 p] 41);(go_wp2_with fail);generalize hL:w4.heap.size=L at *;(have gn:w.heap.size<L:=by omega);generalize w4.alloc (.cells #[.int .i64 1,.string tx,.slice none 0 0,.int .i64 p] 41)=w5 at *;clear q y hL;have HO:=dx.nil (w.heap.size+1) (fun b=>b=L) w5;refine wp_loop_rounds 1 ?_;rw [rounds_succ];(go_wp2_with fail);refine (l5 E (dH (dH s)) _ j.rd).mono ?_;rintro e w6 ⟨rfl,D⟩;have gl:=gb.grown D.gr;have gd:=ge.grown D.gr;have gm:=HO.grown D.gr (by omega);have U:=j.trans D;clear gb ge HO j D;cases M:eX E.c (dH (dH s)) with
  | false=>exact absurd (show res=.out by rw [←O.out,ij];simp only [M,Bool.false_eq_true,if_false]) N.out
  | true=>
   rw [show oS E.c (dH (dH s))=dH (dH (dH s)) by unfold oS;rw [M];rfl] at U;obtain ⟨c0,c1,-,-,-,-⟩:=U.rd.cells;cases gi:(((dH (dH (dH s))).at_:Int)==(E.c.toks.length:Int)) with
   | false=>exact absurd (show res=.out by have e:(dH (dH (dH s))).at_=(dH (dH s)).at_+1:=rfl;rw [beq_eq_false_iff_ne] at gi;rw [←O.out,ij];simp only [M,if_true];rw [if_neg (by omega)]) N.out
   | true=>have HF:=hid (show res=.ok (.mk 1 tx [] p) (dH (dH (dH s))) by have e:(dH (dH (dH s))).at_=(dH (dH s)).at_+1:=rfl;rw [beq_iff_eq] at gi;rw [←O.out,ij];simp only [M,if_true];rw [if_pos (by omega)]);clear O;(go_wp2_with fail);go_quiet (fail);clear c0 c1;obtain ⟨x0,x1,x2,x3,_,_,_,_⟩:=aJ (gl.drewN nq);obtain ⟨d0,d1,d2,d3,e0,e1,e2,e3⟩:=aJ (gd.drewN nq);(go_wp2_with fail);refine rz HF.out (av.of_slice (gm.kept ((aI.refl _ _).drewN nq)).values 1 tx p) (U.drewN nq) (gd.drewN nq) (Nat.le_refl _) u ?_ rfl (by rfl) rfl;rintro b ⟨hb,_⟩;constructor <;> omega
end
end Go.Proofs.YtmmjgmcfdnkomaaGreatDoor
