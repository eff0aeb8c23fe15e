/-
  Parts of the proof: Tspec Zord Pres Prel Rmem. By an AI agent.
-/
import Derived.Test.YteialcjaiocjdaaGreatDoorJ00
import Derived.Test.YteialcjaiocjdaaGreatDoorJ01
import Derived.Test.YteialcjaiocjdaaGreatDoorProg
import Derived.Lib.IndexMore
import Derived.OrdersHeld
import Derived.Deep.RegionHeld
import Derived.WalkKit
import Derived.Lib.Hide
import Derived.WalkLawsBesides
import Derived.WalkSpells
import Derived.RegionTactic
import Derived.Deep.QuietTactic
import Derived.BigQuiet
import Derived.Deep.DeepCutAuto
import Derived.Deep.CutBlock
import Derived.Deep.RegionHeld3
import Derived.Deep.RegionWith
import Derived.StillTailTactics
import Derived.Outline
import Derived.Deep.DrawnRows
import Derived.Deep.Draws
open Go.Proofs.Tryz
set_option maxRecDepth 100000
set_option maxHeartbeats 8000000
namespace Go.Proofs.YteialcjaiocjdaaGreatDoor
section
theorem gC:type_of% @Nat.le_refl:=@Nat.le_refl
theorem gH:type_of% @Go.RowKit.Below.refl:=@Go.RowKit.Below.refl
theorem gX:type_of% @Go.wp_at_zero:=@Go.wp_at_zero
theorem gY:type_of% @Go.wp_at_succ:=@Go.wp_at_succ
theorem jM:type_of% @congrArg:=@congrArg
theorem jR:type_of% @List.length_map:=@List.length_map
theorem jY:type_of% @Go.bodyPost_ret:=@Go.bodyPost_ret
theorem kS:type_of% @List.map_append:=@List.map_append
theorem qf:type_of% @Option.map_some:=@Option.map_some
theorem qi:type_of% @Nat.ne_of_lt:=@Nat.ne_of_lt
theorem qn:type_of% @List.mem_cons_of_mem:=@List.mem_cons_of_mem
theorem qo:type_of% @List.all_eq_true:=@List.all_eq_true
theorem qr:type_of% @Nat.le_of_lt:=@Nat.le_of_lt
theorem qy:type_of% @List.getElem?_eq_none:=@List.getElem?_eq_none
theorem vb:type_of% @List.mem_cons_self:=@List.mem_cons_self
theorem vd:type_of% @List.foldl_cons:=@List.foldl_cons
theorem ve:type_of% @Bool.false_or:=@Bool.false_or
theorem vk:type_of% @Option.getD_some:=@Option.getD_some
def lI(c:UInt8):Bool:=c==95||((decide (97<=c)&&decide (c<=122))||(decide (65<=c)&&decide (c<=90)))
def dY(c:UInt8):Bool:=decide (48<=c)&&decide (c<=57)
def rl:List ByteArray:=[(⟨#[98,114,101,97,107]⟩:BA),(⟨#[99,111,110,116,105,110,117,101]⟩:BA),(⟨#[101,108,115,101]⟩:BA),(⟨#[102,111,114]⟩:BA),(⟨#[102,117,110,99]⟩:BA),(⟨#[105,102]⟩:BA),(⟨#[105,109,112,111,114,116]⟩:BA),(⟨#[105,110,116,101,114,102,97,99,101]⟩:BA),(⟨#[112,97,99,107,97,103,101]⟩:BA),(⟨#[114,97,110,103,101]⟩:BA),(⟨#[114,101,116,117,114,110]⟩:BA),(⟨#[115,116,114,117,99,116]⟩:BA),(⟨#[116,121,112,101]⟩:BA),(⟨#[118,97,114]⟩:BA)]
def rm:List ByteArray:=[(⟨#[99,97,115,101]⟩:BA),(⟨#[99,104,97,110]⟩:BA),(⟨#[99,111,110,115,116]⟩:BA),(⟨#[100,101,102,97,117,108,116]⟩:BA),(⟨#[100,101,102,101,114]⟩:BA),(⟨#[102,97,108,108,116,104,114,111,117,103,104]⟩:BA),(⟨#[103,111]⟩:BA),(⟨#[103,111,116,111]⟩:BA),(⟨#[109,97,112]⟩:BA),(⟨#[115,101,108,101,99,116]⟩:BA),(⟨#[115,119,105,116,99,104]⟩:BA)]
def bW(s:ByteArray):Int:=if rl.any (fun x=>decide (s=x))then 1 else if rm.any (fun x=>decide (s=x))then 2 else 0
def cO:List UInt8->Bool
 |[]=>true
 |c::r=>lI c&&r.all fun c=>lI c||dY c
def dZ(s:ByteArray):Bool:=cO s.data.toList&&(decide (s≠(⟨#[]⟩:BA))&&decide (bW s=0))
def aB(s:ByteArray):Bool:=decide (s.size<=100)&&dZ s
def cj(s:ByteArray):Bool:=aB s&&decide (s≠(⟨#[95]⟩:BA))
def cW(s:ByteArray):Bool:=s.data.toList.all dY&&(decide (s=(⟨#[48]⟩:BA))||(decide (s≠(⟨#[]⟩:BA))&&(decide (s.size<=200)&&decide (s.data.toList.head? ≠ some 48))))
def an(n:Nd):Bool:=decide (n.kind=0)&&(decide (n.text=(⟨#[]⟩:BA))&&decide (n.kids.length=0))
def a6:List (Nd->Bool)->List Nd->Bool
 |[],[]=>true
 |p::ps,n::ns=>p n&&a6 ps ns
 |_,_=>false
def cE(k:Int)(l:List (Nd->Bool))(n:Nd):Bool:=decide (n.kind=k)&&(decide (n.text=(⟨#[]⟩:BA))&&a6 l n.kids)
def aw(so:ByteArray->Bool)(n:Nd):Nd:=if so n.text then .mk n.kind ⟨#[]⟩ n.kids n.pos else .mk 37 ⟨#[]⟩ [] 0
def iv(so:Nd->Bool)(n:Nd):Bool:=decide (n.kind=6)&&(decide (n.text=(⟨#[]⟩:BA))&&n.kids.all so)
def ck(a b:Nd->Bool)(n:Nd):Bool:=a n||b n
structure cm where
 typ:Nd->Bool
 expr:Nd->Bool
 block:Nd->Bool
 stmt:Nd->Bool
 ifS:Nd->Bool
section
variable (F:cm)
def d4(so:ByteArray->Bool)(p:Nd):Bool:=cE 8 [F.typ] (aw so p)
def il(so:ByteArray->Bool)(n:Nd):Bool:=cE 12 [iv (d4 F so),ck an F.typ] n
def er(n:Nd):Bool:=il F aB n
def ec(s:ByteArray):Bool:=decide (s=(⟨#[]⟩:BA))
def dH(n:Nd):Bool:=
 if n.kind=10 then aB n.text&&n.kids.all F.typ
 else if n.kind=11 then cE 11 [F.typ] n
 else if n.kind=12 then il F ec n
 else false
def im(s:ByteArray):Bool:=decide (s=(⟨#[]⟩:BA))||decide (s=(⟨#[126]⟩:BA))
def lh(t:Nd):Bool:=cE 15 [F.typ] (aw im t)
def bo(n:Nd):Bool:=decide (n.kind=14)&&(decide (n.text=(⟨#[]⟩:BA))&&(decide (0<n.kids.length)&&n.kids.all (lh F)))
def io(f:Nd):Bool:=cE 9 [F.typ] (aw aB f)
def bE(n:Nd):Bool:=decide (n.kind=13)&&(decide (n.text=(⟨#[]⟩:BA))&&n.kids.all (io F))
def eS(c:Nd):Bool:=decide (c.kind=10)&&F.typ c
def fE(p:Nd):Bool:=cE 7 [ck (eS F) (bo F)] (aw aB p)
def bj(n:Nd):Bool:=iv (fE F) n
def iL(n:Nd):Bool:=cE 5 [ck an F.typ,ck an F.expr] (aw aB n)&&(!(an (n.kids.getD 0 cc)) || !(an (n.kids.getD 1 cc)))
def bM(n:Nd):Bool:=
 if n.kind=2 then cE 2 [bj F,er F,F.block] (aw aB n)
 else if n.kind=3 then cE 3 [bj F,ck (ck F.typ (bE F)) (bo F)] (aw aB n)
 else if n.kind=4 then cE 4 [bj F,F.typ] (aw aB n)
 else iL F n
def iw:List UInt8:=((⟨#[43,32,45,32,42,32,47,32,37,32,61,61,32,33,61,32,60,32,60,61,32,62,32,62,61,32,38,38,32,124,124,32]⟩:BA).data.toList)
def eC(s:ByteArray):Bool:=decide (s≠(⟨#[]⟩:BA))&&(!(Lib.contains s.data.toList [32])&&Lib.contains (32::iw) (32::(s.data.toList++[32])))
def fw(s:ByteArray):Bool:=decide (s=(⟨#[45]⟩:BA))||decide (s=(⟨#[33]⟩:BA))
def ed(s:ByteArray):Bool:=decide (s.size<=1000)
def dJ(k:Nd):Bool:=F.expr k||(decide (k.kind≠10)&&F.typ k)
def aH(n:Nd):Bool:=
 if n.kind=16 then cE 16 [] (aw cW n)
 else if n.kind=17 then cE 17 [] (aw ed n)
 else if n.kind=18 then cE 18 [] (aw aB n)
 else if n.kind=19 then cE 19 [F.expr] (aw fw n)
 else if n.kind=20 then cE 20 [F.expr,F.expr] (aw eC n)
 else if n.kind=21 then decide (n.text=(⟨#[]⟩:BA))&&(decide (0<n.kids.length)&&n.kids.all F.expr)
 else if n.kind=22 then decide (n.text=(⟨#[]⟩:BA))&&(decide (1<n.kids.length)&&(F.expr (n.kids.getD 0 cc)&&(n.kids.drop 1).all (dJ F)))
 else if n.kind=23 then cE 23 [F.expr] (aw aB n)
 else if n.kind=24 then decide (n.text=(⟨#[]⟩:BA))&&(decide (0<n.kids.length)&&(decide ((n.kids.getD 0 cc).kind≠12)&&(F.typ (n.kids.getD 0 cc)&&(n.kids.drop 1).all F.expr)))
 else cE 25 [er F,F.block] n
def fx(s:ByteArray):List UInt8×List UInt8×Bool:=Lib.cut s.data.toList [44]
def bR(s:ByteArray):Bool:=
 decide (s=(⟨#[]⟩:BA))||(((fx s).2.2&&(aB ⟨(fx s).1.toArray⟩&&cj ⟨(fx s).2.1.toArray⟩))||(!(fx s).2.2&&cj ⟨(fx s).1.toArray⟩))
def ix(s:ByteArray):Bool:=decide (s=(⟨#[43,43]⟩:BA))||decide (s=(⟨#[45,45]⟩:BA))
def fy(n:Nd):Bool:=cE 28 [F.expr] (aw ix n)
def fz(n:Nd):Bool:=cE 27 [F.expr,F.expr] n
def iS(x:Nd):Bool:=decide (x.kind=21)&&F.expr x
def fd(n:Nd):Bool:=cE 29 [iS F] n
def dz(n:Nd):Bool:=cE 26 [F.expr] (aw cj n)
def bI(n:Nd):Bool:=decide (n.kind=36)&&(decide (n.text=(⟨#[]⟩:BA))&&n.kids.all F.stmt)
def AQ(n:Nd):Bool:=cE 30 [F.expr,F.block,ck (ck an F.block) F.ifS] n
def aE(n:Nd):Bool:=
 if n.kind=5 then iL F n
 else if n.kind=26 then dz F n
 else if n.kind=27 then fz F n
 else if n.kind=28 then fy F n
 else if n.kind=29 then fd F n
 else if n.kind=30 then AQ F n
 else if n.kind=31 then cE 31 [ck (ck an (dz F)) (ck (fz F) (fy F)),ck an F.expr,ck (ck an (fz F)) (ck (fy F) (fd F)),F.block] n
 else if n.kind=32 then cE 32 [F.expr,F.block] (aw bR n)
 else if n.kind=33 then cE 33 [ck an F.expr] n
 else if n.kind=34\/n.kind=35 then cE n.kind [] n
 else bI F n
def fF(n:Nd):Bool:=decide (n.kind=1)&&(aB n.text&&n.kids.all (bM F))
end
def aa:Nat->cm
 |0=>⟨fun _=>false,fun _=>false,fun _=>false,fun _=>false,fun _=>false⟩
 |g+1=>⟨dH (aa g),aH (aa g),bI (aa g),aE (aa g),AQ (aa g)⟩
def df:Nat->Nd->Prop
 |0,_=>False
 |g+1,n=>(n.kids.length<=1000000000/\n.text.size<=1000000000)/\∀k∈n.kids,df g k
theorem df.succ:∀{g:Nat}{n:Nd},df g n->df (g+1) n
 |0,_,h=>h.elim
 |_+1,_,h=>⟨h.1,fun k hk=>df.succ (h.2 k hk)⟩
theorem df.kid{g:Nat}{n k:Nd}(h:df (g+1) n)(D:k∈n.kids):df g k:=h.2 k D
theorem df.len{g:Nat}{n:Nd}(h:df g n):n.kids.length<=1000000000:=by
 cases g with
 |zero=>exact h.elim
 |succ g=>exact h.1.1
theorem df.txt{g:Nat}{n:Nd}(h:df g n):n.text.size<=1000000000:=by
 cases g with
 |zero=>exact h.elim
 |succ g=>exact h.1.2
theorem df.named{g:Nat}{n:Nd}{so:ByteArray->Bool}(h:df g n):df g (aw so n):=by
 cases g with
 |zero=>exact h.elim
 |succ g=>
  unfold aw;split
  ·exact⟨⟨h.1.1,by simp[ByteArray.size]⟩,h.2⟩
  ·exact⟨⟨by simp,by simp[ByteArray.size]⟩,fun k hk=>by simp at hk⟩
def rn:Nat->Nd->Prop
 |0,_=>True
 |g+1,n=>(n.kids.length<=1000000000/\n.text.size<=1000000000)/\∀k∈n.kids,rn g k
def aO:Nat->Nd->List Nat
 |0,_=>[]
 |l+1,n=>(l+1)::n.kids.flatMap (aO l)
def yR(l:Nat)(n:Nd):Nat:=(aO l n).length
def et(n:Nd):Nat:=(aO 101 n).foldl (fun d l=>max d (102-l)) 0
theorem m9(l:List Nat):∀d m,l.foldl (fun d l=>max d (102-l)) d<=m↔d<=m/\∀x∈l,102-x<=m:=by
 induction l with
 |nil=>intro d m;simp
 | cons x l ih=>
  intro d m;rw[vd,ih,Nat.max_le];constructor
  ·rintro⟨⟨I,D⟩,J⟩;refine⟨I,fun y hy=>?_⟩;rcases List.mem_cons.1 hy with rfl|hy
   ·exact D
   ·exact J y hy
  ·rintro⟨I,D⟩;exact⟨⟨I,D x vb⟩,fun y hy=>D y (qn _ hy)⟩
theorem yS:∀(g:Nat)(n:Nd),rn g n->(∀x∈aO (g+1) n,2<=x)->df g n
 |0,n,_,h=>by have:=h 1 (by simp[aO]);omega
 | g + 1,_,D,h=>⟨D.1,fun k I=>yS g k (D.2 k I) fun x J=>h x (by
     rw[aO];exact qn _ (List.mem_flatMap.2 ⟨k,I,J⟩))⟩
theorem li{n:Nd}(D:rn 100 n)(h:et n<=100):df 100 n:=by refine yS 100 n D fun x hx=>?_;have:=((m9 _ _ _).1 h).2 x hx;omega
def bc(n:Nd):Bool:=decide (et n<=100)&&(decide (yR 100 n<=65536)&&fF (aa 100) n)
section
variable {P:Program} {ops:Array Oper} {Q:Exit->Act->World->Prop} {md:Region.Mode} {S:World->Prop} {L:Nat}
def sm(md:Region.Mode)(ops:Array Oper)(listed:Array Bool):Prop:=
 ∀(j:Nat)(o:Oper),ops[j]? = some o->listed.getD j false=true->∀e∈o.after,Region.binds md e=true->listed.getD e.on false=true
def ui(md:Region.Mode)(ops:Array Oper)(listed:Array Bool):Bool:=
 (List.range ops.size).all fun j =>!listed.getD j false||((ops[j]?).map (·.after.all fun e =>!Region.binds md e||listed.getD e.on false)).getD true
theorem G6{listed:Array Bool}(h:ui md ops listed=true):sm md ops listed:=by intro j o ho J e he hb;unfold ui at h;rw[qo]at h;have D:=h j (List.mem_range.2 (Array.getElem?_eq_some_iff.1 ho).1);rw[ho,J]at D;simp only[Bool.not_true,ve,qf,vk,Array.all_eq_true_iff_forall_mem]at D;have I:=D e he;rw[hb]at I;simpa using I
theorem Ep{listed:Array Bool}(h:sm md ops listed){i:Nat}(M:i∈Region.ready md ops listed):sm md ops (listed.setIfInBounds i true):=by
 intro j o ho hj e he hb;by_cases I:i=j
 ·subst I;obtain⟨_,o',D,J⟩:=mem_ready.1 M;rw[ho]at D;injection D with D;subst D;exact getD_set_true (J e he hb)
 ·rw[getD_set_ne false I]at hj;exact getD_set_true (h j o ho hj e he hb)
def Ae(md:Region.Mode)(ops:Array Oper):List Nat->Bool
 |a::b::r=>((ops[b]?).map (·.after.any fun e=>Region.binds md e&&e.on==a)).getD false&&Ae md ops (b::r)
 |_=>true
theorem tQ{listed:Array Bool}(hc:sm md ops listed)(hL:L∈Region.ready md ops listed):∀(p:List Nat)(a:Nat),Ae md ops (a::p)=true->p.getLast? = some L->listed.getD a false=true
 |[],_,_,h=>by simp at h
 | b::r,a,N,O=>by
  unfold Ae at N;rw[gA]at N;obtain⟨D,hr⟩:=N;cases M:ops[b]? with
  |none=>rw[M]at D;simp at D
  |some o=>
   rw[M]at D;simp only[qf,vk]at D;rw[Array.any_eq_true']at D;obtain⟨e,he,D⟩:=D;rw[gA,kO]at D;obtain⟨hb,rfl⟩:=D;cases r with
   |nil=>simp at O;subst O;obtain⟨_,o',I,J⟩:=mem_ready.1 hL;rw[M]at I;injection I with I;subst I;exact J e he hb
   |cons c r'=>have U:=tQ hc hL (c::r') b hr (by simpa using O);exact hc b o M U e he hb
def lC(P:Program)(md:Region.Mode)(ops:Array Oper)(Q:Exit->Act->World->Prop)(S:World->Prop)(L:Nat):Nat->Array Bool->Act->World->Prop
 |0,listed,a,w=>Region.ready md ops listed=[]/\Q .normal a w
 |fuel+1,listed,a,w=>
  (Region.ready md ops listed=[]->Q .normal a w) /\
  ∀i∈Region.ready md ops listed,wpOp P ops Q i (fun a' w'=>(S w'\/i=L)/\lC P md ops Q S L fuel (listed.setIfInBounds i true) a' w') a w
theorem we:∀(fuel:Nat)(listed:Array Bool)(a:Act)(w:World),lC P md ops Q S L fuel listed a w->wpAny P md ops Q fuel listed a w
 |0,_,_,_,h=>h
 |fuel+1,_,_,_,h=>⟨h.1,fun i hi=>wpOp_mono (fun a' w' h'=>we fuel _ a' w' h'.2) (h.2 i hi)⟩
theorem Bi{i:Nat}{oi:Oper}{v:Value}(hi:ops[i]? = some oi)(M:∀(j:Nat)(o:Oper)cs b,ops[j]? = some o->o.op≠.select cs b)
  (hQ:∀c a w,Q (.panic c) (a.put oi.dst v) w->Q (.panic c) a w)(p:List Nat)(hp:Ae md ops (i::p)=true)(hl:p.getLast? = some L):
  ∀ (fuel:Nat)(listed:Array Bool)(a:Act)(w:World),sm md ops listed ->
    (∀j oj,ops[j]? = some oj->j≠i->listed.getD j true=false->(∀e∈oj.after,Region.binds md e=true->e.on≠i)->oi.apart ops oj=true) ->
    i∈Region.ready md ops listed->YieldsIf P ops S oi v a->S w ->
    lC P md ops Q S L fuel (listed.setIfInBounds i true) (a.put oi.dst v) w->lC P md ops Q S L (fuel+1) listed a w:=by
 intro fuel;induction fuel with
 |zero=>
  intro listed a w _ _ O hy hS H;refine⟨fun h=>(by rw[h]at O;cases O),fun j hj=>?_⟩;by_cases D:j=i
  ·subst D;exact hy.wpOp hi hS ⟨.inl hS,H⟩
  ·have:=ready_mono hj D;rw[H.1]at this;cases this
 | succ fuel ih=>
  intro listed a w hcl I O hy hS H;refine⟨fun h=>(by rw[h]at O;cases O),fun j hj=>?_⟩;by_cases D:j=i
  ·subst D;exact hy.wpOp hi hS ⟨.inl hS,H⟩
  ·have h1:=H.2 j (ready_mono hj D);obtain⟨N,oj,U,gg⟩:=mem_ready.1 hj;have ga:listed.getD i false=false:=by
    have h0:=(mem_ready.1 O).1;rcases kL i listed.size with h'|h'
    ·simp[h']at h0 |-;exact h0
    ·simp[Array.getElem?_eq_none h']
   (have ge:j≠L:=by rintro rfl;rw[tQ hcl hj p i hp hl]at ga;cases ga);(have gb:∀e∈oj.after,Region.binds md e=true->e.on≠i:=fun e he hb heq=>by have h1:=gg e he hb;rw[heq,ga]at h1;cases h1);have h2:=wpOp_putIf U (I j oj U D N gb) (fun cs b=>M i oi cs b hi) (fun cs b=>M j oj cs b U) hQ hy h1;have J:∀k ok,ops[k]? = some ok->k≠i->(listed.setIfInBounds j true).getD k true=false ->
     (∀e∈ok.after,Region.binds md e=true->e.on≠i)->oi.apart ops ok=true:=fun k ok hk hki hun hno=>by
    refine I k ok hk hki ?_ hno;by_cases gd:j=k
    ·subst gd;exact N
    ·rw[getD_set_ne true gd]at hun;exact hun
   refine wpOp_mono (fun a' w' h3=>⟨.inl (h3.2.1.resolve_right ge),ih (listed.setIfInBounds j true) a' w' (Ep hcl hj) J (ready_mono O (Ne.symm D)) h3.1 (h3.2.1.resolve_right ge) ?_⟩) h2;rw[Array.setIfInBounds_comm _ _ D];exact h3.2.2
theorem CQ{i:Nat}{oi:Oper}{v:Value}{fuel:Nat}{listed:Array Bool}{a:Act}{w:World}(p:List Nat)(D:ops[i]? = some oi)
  (U:ui md ops listed=true)(M:Ae md ops (i::p)=true)(N:p.getLast? = some L)
  (hs:Region.noSelect ops=true)(O:Region.free md ops listed i=true)(J:(Region.ready md ops listed).contains i=true)
  (hQ:∀c a w,Q (.panic c) (a.put oi.dst v) w->Q (.panic c) a w)(I:YieldsIf P ops S oi v a)(hS:S w)
  (h:lC P md ops Q S L fuel (listed.setIfInBounds i true) (a.put oi.dst v) w):lC P md ops Q S L (fuel+1) listed a w:=
 Bi D (Region.noSelect_spec hs) hQ p M N fuel listed a w (G6 U) (Region.free_spec D O) (by simpa using J) I hS h
theorem CR(i:Nat){oi:Oper}{v:Value}{fuel:Nat}{listed:Array Bool}{a:Act}{w:World}(p:List Nat)(O:S w)
  (h:lC P md ops Q S L fuel (listed.setIfInBounds i true) (a.put oi.dst v) w)(N:ops[i]? = some oi:=by rfl)
  (D:(ui md ops listed&&(Ae md ops (i::p)&&(Region.noSelect ops&&(Region.free md ops listed i&&(Region.ready md ops listed).contains i))))=true:=by kernel_rfl)(M:p.getLast? = some L:=by rfl)
  (U:∀c a w,Q (.panic c) (a.put oi.dst v) w->Q (.panic c) a w:=by exact fun _ _ _ h=>h)(J:Region.wanted oi (yielded ops a.tmps)=true:=by rfl)
  (I:∀w,S w->(execOp a.eval oi).run P w=.ok (.value v) w:=by intro w hSw;(try dsimp only[SS]at hSw);go_simp;try(with_reducible rfl)):lC P md ops Q S L (fuel+1) listed a w:=by simp only[gA]at D;exact CQ p N D.1 D.2.1 M D.2.2.1 D.2.2.2.1 D.2.2.2.2 U (Or.inl ⟨J,I⟩) O h
def dO(P:Program)(md:Region.Mode)(ops:Array Oper)(Q:Exit->Act->World->Prop)(S:World->Prop)(L:Nat)(fuel:Nat)(listed:Array Bool)(a:Act)(w:World)(rs:List Nat):Prop:=
 ∀i∈rs,wpOp P ops Q i (fun a' w'=>(S w'\/i=L)/\lC P md ops Q S L fuel (listed.setIfInBounds i true) a' w') a w
theorem dO.nil{fuel:Nat}{listed:Array Bool}{a:Act}{w:World}:dO P md ops Q S L fuel listed a w []:=fun _ h=>by cases h
theorem dO.cons{fuel:Nat}{listed:Array Bool}{a:Act}{w:World}{i:Nat}{o:Oper}{rs:List Nat}(I:ops[i]? = some o)
  (h:∀K':Act->World->Prop,Shut (∀a w,(S w\/i=L)->(S w\/i=L->lC P md ops Q S L fuel (listed.setIfInBounds i true) a w)->K' a w)->if Region.wanted o (yielded ops a.tmps)=true then Oper.wp P o a w K' Q else K' (a.put o.dst undef) w)
  (hs:dO P md ops Q S L fuel listed a w rs):dO P md ops Q S L fuel listed a w (i::rs):=fun j hj=>by
 rcases List.mem_cons.1 hj with rfl|hj
 ·exact wpOp_step I (fun K' hK=>h K' (fun a w D J=>hK a w ⟨D,J D⟩))
 ·exact hs j hj
theorem bm{rs:List Nat}{fuel:Nat}{listed:Array Bool}{a:Act}{w:World}(I:Region.ready md ops listed=rs)(D:rs≠[])
  (h:dO P md ops Q S L fuel listed a w rs):lC P md ops Q S L (fuel+1) listed a w:=
 ⟨fun J=>absurd (I▸J) D,I▸h⟩
theorem lY{listed:Array Bool}{a:Act}{w:World}(D:Region.ready md ops listed=[])(h:Q .normal a w):
  ∀fuel,lC P md ops Q S L fuel listed a w
 |0=>⟨D,h⟩
 |_+1=>⟨fun _=>h,by rw[D];simp⟩
theorem mW(L:Nat){id:Nat}{a:Act}{w:World}(D:P.follows .mixedOrders=true)(I:S w.drew)
  (h:S w.drew->lC P .any ops Q S L ops.size (Array.replicate ops.size false) a w.drew):(Code.region id ops true).wp P Q a w:=
 wp_region_any D (we _ _ _ _ (h I))
end
section
variable {c:Cx} {i i' j j' m:Nat}
theorem CW{i:Nat}(h:c.toks.length<=i):az c i=⟨0,⟨#[]⟩,c.fin⟩:=by unfold az;rw[qy h]
theorem CX{i:Nat}(h:i<c.toks.length):az c i=c.toks[i]:=by unfold az;rw[gT h]
theorem PD{s:St}{x:ByteArray}(h:aP c s x=true):s.at_<c.toks.length:=by
 rcases kL s.at_ c.toks.length with D|D
 ·exact D
 ·unfold aP TD at h;rw[CW D]at h;simp at h
end
section
variable {c:Cx} {g:Nat} {F:fK}
end
mutual
def ng:Nd->Nd
 | .mk k t l _=>.mk k t (nW l) 0
def nW:List Nd->List Nd
 |[]=>[]
 |n::l=>ng n::nW l
end
theorem eM(k t l a):ng (.mk k t l a)=.mk k t (nW l) 0:=by rw[ng]
theorem lP:∀l,nW l=l.map ng
 |[]=>by rw[nW];rfl
 |n::l=>by rw[nW,lP l];rfl
theorem FO(l m:List Nd):nW (l++m)=nW l++nW m:=by rw[lP,lP,lP,kS]
def ci(n m:Nd):Prop:=ng n=ng m
def bi(l m:List Nd):Prop:=nW l=nW m
section
variable {n m:Nd} {l l':List Nd}
theorem ci.kind(h:ci n m):n.kind=m.kind:=by obtain⟨k,t,l,a⟩:=n;obtain⟨k',t',l',a'⟩:=m;unfold ci at h;rw[eM,eM]at h;injection h
theorem ci.text(h:ci n m):n.text=m.text:=by obtain⟨k,t,l,a⟩:=n;obtain⟨k',t',l',a'⟩:=m;unfold ci at h;rw[eM,eM]at h;injection h
theorem ci.kids(h:ci n m):bi n.kids m.kids:=by obtain⟨k,t,l,a⟩:=n;obtain⟨k',t',l',a'⟩:=m;unfold ci at h;rw[eM,eM]at h;injection h
theorem ci.mk{k t}(h:bi l l')(a a':Int):ci (.mk k t l a) (.mk k t l' a'):=by unfold ci;rw[eM,eM,show nW l=nW l' from h]
theorem bi.len(h:bi l l'):l.length=l'.length:=by have:=jM List.length h;rw[lP,lP,jR,jR]at this;exact this
theorem bi.nil:bi [] []:=rfl
theorem bi.app(h:bi l l'){p q:List Nd}(D:bi p q):bi (l++p) (l'++q):=by unfold bi;rw[FO,FO,show nW l=nW l' from h,show nW p=nW q from D]
theorem bi.cons(h:ci n m)(D:bi l l'):bi (n::l) (m::l'):=by unfold bi;rw[nW,nW,show ng n=ng m from h,show nW l=nW l' from D]
theorem bi.one(h:ci n m):bi [n] [m]:=bi.cons h bi.nil
theorem ci.refl(n:Nd):ci n n:=rfl
end
mutual
theorem pM:∀n:Nd,bP (ng n)=(bP n).map ng
 | .mk k t l a=>by
  rw[eM];unfold bP;by_cases J:k=10\/k=11\/k=12
  ·rw[gG J,gG J,qf,eM]
  ·rw [gB J,gB J];by_cases I:k=18
   ·rw[gG I,gG I,qf,eM,nW]
   ·rw [gB I,gB I];by_cases D:k=22
    ·rw [gG D,gG D];cases l with
     |nil=>rw[nW];rfl
     | cons x r=>
      rw[nW];simp only;rw[pM x,wq r];cases bP x with
      |none=>rfl
      | some y=>
       obtain⟨O,M,N,a2⟩:=y;simp only[qf,eM,lP,jR];split
       ·cases cC r with
        |none=>rfl
        |some r'=>simp only[qf,eM,lP]
       ·rfl
    ·rw[gB D,gB D];rfl
theorem wq:∀l:List Nd,cC (nW l)=(cC l).map nW
 |[]=>by rw[nW];unfold cC;rfl
 |x::r=>by
  rw[nW];unfold cC;rw[pM x,wq r];cases bP x with
  |none=>rfl
  | some y=>cases cC r with
    |none=>rfl
    |some r'=>simp only[qf,nW]
end
theorem Ew{n n':Nd}(h:ci n n'):(bP n=none/\bP n'=none)\/∃t t',bP n=some t/\bP n'=some t'/\ci t t':=by
 (have e:(bP n).map ng=(bP n').map ng:=by rw[<-pM,<-pM,show ng n=ng n' from h]);cases I:bP n with
 |none=>
  cases D:bP n' with
  |none=>exact .inl ⟨rfl,rfl⟩
  |some y=>rw[I,D]at e;cases e
 |some x=>
  cases D:bP n' with
  |none=>rw[I,D]at e;cases e
  |some y=>rw[I,D]at e;injection e with e;exact .inr ⟨x,y,rfl,rfl,e⟩
end
section
open Go.RowKit Go.Lib Go.Proofs
attribute [local go_sem ↓] Go.wp_at_zero Go.wp_at_succ
def nB(t:ef):List Value:=[.int .i64 t.kind,.string t.text,.int .i64 t.pos]
theorem fL(t:ef):(nB t).length=3:=rfl
structure cw where
 R:Nat
 A:Option Addr
 cap:Nat
 c:Cx
 w0:World
def rW(E:cw)(s:St):Array Value:=#[.slice E.A E.c.toks.length E.cap,.int .i64 s.at_,.int .i64 E.c.fin,.bool s.head,.int .i64 s.part]
def OW(E:cw)(w:World):Prop:=∀b,b<E.R->w.heap[b]? = E.w0.heap[b]?
structure aU(E:cw)(w:World)(s:St):Prop where
 blk:aq w E.R 52 (rW E s)
 toks:fh (· < E.R) w 3 E.A E.c.toks.length (E.c.toks.flatMap nB)
 le:s.at_<=E.c.toks.length
 most:E.c.toks.length<=1000000
 fits:E.c.toks.length<=E.cap
 old:OW E w
section
variable {E:cw} {w w':World} {s s':St}
theorem aU.lt(h:aU E w s):E.R<w.heap.size:=h.blk.lt
theorem aU.keep(h:aU E w s)(D:∀b,b<=E.R->w'.heap[b]? = w.heap[b]?):aU E w' s:=
 ⟨(D _ (gC _)).trans h.blk,h.toks.keep (fun b hb _=>D b (qr hb)),h.le,h.most,h.fits,fun b hb=>(D b (qr hb)).trans (h.old b hb)⟩
theorem aU.below(h:aU E w s)(hb:Below w w w'):aU E w' s:=h.keep fun b hbR=>hb.block b (Nat.lt_of_le_of_lt hbR h.lt)
theorem aU.drew(h:aU E w s):aU E w.drew s:=h.below (gH _ _).drew
theorem aU.drewN(h:aU E w s)(n:Nat):aU E (w.drewN n) s:=h.below (below_drewN (gH _ _) n)
theorem aU.alloc(h:aU E w s)(o:Obj):aU E (w.alloc o) s:=h.below ((gH _ _).alloc (gC _) o)
theorem aU.far(h:aU E w s){p:Addr}(D:E.R<p.block)(u:Value):aU E (w.setCell p u) s:=
 h.keep fun b hb=>jU w p u b (by omega)
theorem aU.grown(h:aU E w s){row:Option Nat}(I:w.grownBy w' row)(D:∀g,row=some g->E.R<g):aU E w' s:=
 h.keep fun b hb=>I.block b (Nat.lt_of_le_of_lt hb h.lt) (fun e=>by have:=D b e.symm;omega)
theorem aU.toks_keep(h:aU E w s)(D:w.grownBy w' (some E.R)):fh (· < E.R) w' 3 E.A E.c.toks.length (E.c.toks.flatMap nB):=
 h.toks.keep fun b hb hlt=>D.block b hlt (fun e=>by injection e with e;omega)
theorem aU.setAt(h:aU E w s)(n:Nat)(D:n<=E.c.toks.length):aU E (w.setCell ⟨E.R,1,none⟩ (.int .i64 (n:Int))) { s with at_:=n } :=
 ⟨by simpa[rW]using h.blk.set_ 1 (.int .i64 (n:Int)),h.toks_keep (iQ _ _ _ _),D,h.most,h.fits,fun k hk=>(jU w _ _ k (by show k≠E.R;omega)).trans (h.old k hk)⟩
theorem aU.setHead(h:aU E w s)(b:Bool):aU E (w.setCell ⟨E.R,3,none⟩ (.bool b)) { s with head:=b } :=
 ⟨by simpa[rW]using h.blk.set_ 3 (.bool b),h.toks_keep (iQ _ _ _ _),h.le,h.most,h.fits,fun k hk=>(jU w _ _ k (by show k≠E.R;omega)).trans (h.old k hk)⟩
theorem aU.setPart(h:aU E w s)(n:Int):aU E (w.setCell ⟨E.R,4,none⟩ (.int .i64 n)) { s with part:=n } :=
 ⟨by simpa[rW]using h.blk.set_ 4 (.int .i64 n),h.toks_keep (iQ _ _ _ _),h.le,h.most,h.fits,fun k hk=>(jU w _ _ k (by show k≠E.R;omega)).trans (h.old k hk)⟩
theorem aU.cells(h:aU E w s):w.cell? ⟨E.R,0,none⟩=some (.slice E.A E.c.toks.length E.cap)/\w.cell? ⟨E.R,1,none⟩=some (.int .i64 s.at_)/\w.cell? ⟨E.R,2,none⟩=some (.int .i64 E.c.fin) /\
  w.cell? ⟨E.R,3,none⟩=some (.bool s.head)/\w.cell? ⟨E.R,4,none⟩=some (.int .i64 s.part)/\(∀i,w.frozen? ⟨E.R,i,none⟩=false):=by have c0:=h.blk.cell 0;have c1:=h.blk.cell 1;have c2:=h.blk.cell 2;have c3:=h.blk.cell 3;have c4:=h.blk.cell 4;simp[rW]at c0 c1 c2 c3 c4;exact⟨c0,c1,c2,c3,c4,h.blk.frozen⟩
theorem aU.tok(h:aU E w s)(i:Nat)(D:i<E.c.toks.length):∃b off,E.A=some ⟨b,off,none⟩/\b<E.R/\w.cell? ⟨b,off+i*3,none⟩=some (.int .i64 (az E.c i).kind) /\
  w.cell? ⟨b,off+i*3+1,none⟩=some (.string (az E.c i).text)/\w.cell? ⟨b,off+i*3+2,none⟩=some (.int .i64 (az E.c i).pos):=by
 obtain⟨b,off,e,hb,I⟩:=h.toks.2 (by omega);(have J:az E.c i=E.c.toks[i]:=by unfold az;rw[gT D]);rw[J];refine⟨b,off,e,hb,I (i*3) _ ?_,I (i*3+1) _ ?_,I (i*3+2) _ ?_⟩
 ·have:=i6 fL E.c.toks i 0 D (by omega);rw[gZ]at this;rw[this];rfl
 ·rw[i6 fL E.c.toks i 1 D (by omega)];rfl
 ·rw[i6 fL E.c.toks i 2 D (by omega)];rfl
theorem nC(c:Cx)(i:Nat)(h:c.toks.length<=i):az c i=⟨0,⟨#[]⟩,c.fin⟩:=by unfold az;rw[qy h]
end
def fY(t:ef):Value:=.agg #[t.kind,t.text,t.pos]
theorem bK{B:Nat}{a w:World}(h:Below B a w)(n:Nat):Below B a (w.drewN n):=h.trans ⟨rfl,rfl,rfl,gC _,fun _ _=>rfl⟩
theorem bel{p:Prop}(h:p:=by repeat'(first|with_reducible exact gH _ _|with_reducible refine Below.alloc ?_ ?_ _|with_reducible refine Below.setCell ?_ ?_ _|with_reducible refine Below.drew ?_ |with_reducible refine bK ?_ _|(simp<;>omega)|omega)):p:=h
theorem rk{p:Prop}(h:p:=by repeat'(first|with_reducible assumption|with_reducible exact gH _ _|with_reducible refine Below.alloc ?_ ?_ _|with_reducible refine Below.setCell ?_ ?_ _|with_reducible refine Below.drew ?_ |with_reducible refine bK ?_ _|(simp<;>omega)|omega)):p:=h
theorem bL(E:cw)(s:St)(w:World)(h:aU E w s):Calls prog 53 #[E.R] w fun e w'=>e=.returned (fY (az E.c s.at_))/\Below w w w':=by
 obtain⟨c0,c1,c2,_,_,_⟩:=h.cells;have M:=h.lt;have ga:=qi M;have J:=h.most;by_cases D:s.at_=E.c.toks.length
 ·have N:=nC E.c s.at_ (by omega);rw[N];rw[D]at c1;clear N D h;(go_enter func53,ntmps53);go_wp2_with fail;go_quiet (fail);go_wp2_with fail;refine jY (v:=fY ⟨0,⟨#[]⟩,E.c.fin⟩) (by simp[results,fY,results53,go_sem]) rfl ⟨rfl,?_⟩;exact bel
 ·(have I:s.at_<E.c.toks.length:=by have:=h.le;omega);obtain⟨b,off,eA,hb,t0,t1,t2⟩:=h.tok s.at_ I;rw[eA]at c0;(have g1:((s.at_:Int)==(E.c.toks.length:Int))=false:=by simp;omega);(have g2:(0:Int)<=(s.at_:Int):=by omega);(have g3:(s.at_:Int)<(E.c.toks.length:Int):=by omega);(have U:b<w.heap.size:=by omega);(have O:b≠w.heap.size:=by omega);clear D h eA;(go_enter func53,ntmps53);go_wp2_with fail;go_quiet (fail);go_wp2_with fail;go_region;go_wp2_with fail;refine jY (v:=fY (az E.c s.at_)) (by simp[results,fY,results53,go_sem]) rfl ⟨rfl,?_⟩;exact bel
end
end Go.Proofs.YteialcjaiocjdaaGreatDoor
