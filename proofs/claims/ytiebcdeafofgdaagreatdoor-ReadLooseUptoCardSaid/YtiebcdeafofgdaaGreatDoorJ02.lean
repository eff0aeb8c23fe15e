/-
  Parts of the proof: Dplain Zord Pres Prel Rmem. By an AI agent.
-/
import Derived.Test.YtiebcdeafofgdaaGreatDoorJ00
import Derived.Test.YtiebcdeafofgdaaGreatDoorJ01
import Derived.Test.YtiebcdeafofgdaaGreatDoorProg
import Derived.OrdersHeld
import Derived.Deep.RegionHeld
import Derived.WalkKit
import Derived.Lib.Hide
import Derived.WalkLawsBesides
import Derived.WalkSpells
import Derived.RegionTactic
import Derived.Deep.QuietTactic
import Derived.BigQuiet
import Derived.Deep.DeepCutAuto
import Derived.Deep.CutBlock
import Derived.Deep.RegionHeld3
import Derived.Deep.RegionWith
import Derived.StillTailTactics
import Derived.Outline
import Derived.Deep.DrawnRows
import Derived.Deep.Draws
open Go.Proofs.Tryz
set_option maxRecDepth 100000
set_option maxHeartbeats 8000000
namespace Go.Proofs.YtiebcdeafofgdaaGreatDoor
section
theorem gA:type_of% @Nat.le_refl:=@Nat.le_refl
theorem gB:type_of% @Bool.and_eq_true:=@Bool.and_eq_true
theorem gE:type_of% @decide_eq_true_eq:=@decide_eq_true_eq
theorem gG:type_of% @Go.RowKit.Below.refl:=@Go.RowKit.Below.refl
theorem gR:type_of% @List.getD_eq_getElem?_getD:=@List.getD_eq_getElem?_getD
theorem gV:type_of% @Go.wp_at_zero:=@Go.wp_at_zero
theorem gW:type_of% @Go.wp_at_succ:=@Go.wp_at_succ
theorem jA:type_of% @List.take_of_length_le:=@List.take_of_length_le
theorem jD:type_of% @Nat.add_zero:=@Nat.add_zero
theorem jG:type_of% @Bool.false_and:=@Bool.false_and
theorem jM:type_of% @congrArg:=@congrArg
theorem jR:type_of% @Nat.le_of_lt:=@Nat.le_of_lt
theorem jT:type_of% @List.length_map:=@List.length_map
theorem jV:type_of% @Go.bodyPost_ret:=@Go.bodyPost_ret
theorem jW:type_of% @ByteArray.size_extract:=@ByteArray.size_extract
theorem kF:type_of% @beq_iff_eq:=@beq_iff_eq
theorem kT:type_of% @List.map_append:=@List.map_append
theorem qf:type_of% @Option.map_some:=@Option.map_some
theorem qi:type_of% @Nat.ne_of_lt:=@Nat.ne_of_lt
theorem qG:type_of% @List.extract_eq_take_drop:=@List.extract_eq_take_drop
theorem qI:type_of% @List.all_eq_true:=@List.all_eq_true
theorem qZ:type_of% @List.getElem?_eq_none:=@List.getElem?_eq_none
theorem vi:type_of% @Bool.false_or:=@Bool.false_or
theorem vm:type_of% @List.drop_succ_cons:=@List.drop_succ_cons
theorem vw:type_of% @UInt8.toNat_lt:=@UInt8.toNat_lt
theorem vz:type_of% @Option.getD_some:=@Option.getD_some
def ac(s:ByteArray)(i:Nat):Nat:=(s.data.toList.getD i 0).toNat
theorem ed(s:ByteArray)(i:Nat):ac s i<256:=vw _
theorem ur(s:ByteArray)(j:Nat):(s.get! j).toNat=ac s j:=by obtain⟨bs⟩:=s;show(bs[j]!).toNat=(bs.toList.getD j 0).toNat;rw[Array.getElem!_eq_getD,gR,Array.getD_eq_getD_getElem?,Array.getElem?_toList];rfl
def Gb(y0 y1 y2 y3:Nat)(c1 c2 c3:Prop)[Decidable c1][Decidable c2][Decidable c3]:Nat×Nat:=
 if y0<128 then(y0,1)
 else if y0/32=6/\c1/\y1/64=2 then(if 128<=y0%32*64+y1%64 then(y0%32*64+y1%64,2)else(65533,1))
 else if y0/16=14/\(c1/\y1/64=2)/\(c2/\y2/64=2)then(if 2048<=y0%16*4096+y1%64*64+y2%64/\Utf8.valid ((y0%16*4096+y1%64*64+y2%64:Nat):Int)=true then(y0%16*4096+y1%64*64+y2%64,3)else(65533,1))
 else if y0/8=30/\(c1/\y1/64=2)/\(c2/\y2/64=2)/\(c3/\y3/64=2)then(if 65536<=y0%8*262144+y1%64*4096+y2%64*64+y3%64/\Utf8.valid ((y0%8*262144+y1%64*4096+y2%64*64+y3%64:Nat):Int)=true then(y0%8*262144+y1%64*4096+y2%64*64+y3%64,4)else(65533,1))
 else(65533,1)
theorem l9(s:ByteArray)(i:Nat):Utf8.decode s i=Gb (ac s i) (ac s (i+1)) (ac s (i+2)) (ac s (i+3)) (i+1<s.size) (i+2<s.size) (i+3<s.size):=by unfold Gb;simp only[Utf8.decode,ur,jD,gB,gE,kF,ge_iff_le,Utf8.runeError,and_assoc]
theorem ld(s:ByteArray)(i:Nat)(h:ac s i<128):Utf8.decode s i=(ac s i,1):=by rw[l9,Gb,gF h]
theorem iy(s:ByteArray)(i:Nat)(J:i<s.size)(h:128<=ac s i):
  128<=(Utf8.decode s i).1/\1<=(Utf8.decode s i).2/\i+(Utf8.decode s i).2<=s.size/\∀m,m<(Utf8.decode s i).2->128<=ac s (i+m):=by
 (have one:∀m,m<1->128<=ac s (i+m):=fun m D=>by(obtain rfl:m=0:=by omega);exact h);rw[l9,Gb,d5 (by omega)];split
 ·rename_i I;split
  ·refine⟨by omega,by omega,by simp only;omega,fun m D=>?_⟩;have D:m<2:=D;rcases(by omega:m=0\/m=1)with rfl|rfl
   ·exact h
   ·omega
  ·exact⟨by omega,by omega,by simp only;omega,one⟩
 ·split
  ·rename_i I;split
   ·refine⟨by omega,by omega,by simp only;omega,fun m D=>?_⟩;have D:m<3:=D;rcases(by omega:m=0\/m=1\/m=2)with rfl|rfl|rfl
    ·exact h
    ·omega
    ·omega
   ·exact⟨by omega,by omega,by simp only;omega,one⟩
  ·split
   ·rename_i I;split
    ·refine⟨by omega,by omega,by simp only;omega,fun m D=>?_⟩;have D:m<4:=D;rcases(by omega:m=0\/m=1\/m=2\/m=3)with rfl|rfl|rfl|rfl
     ·exact h
     ·omega
     ·omega
     ·omega
    ·exact⟨by omega,by omega,by simp only;omega,one⟩
   ·exact⟨by omega,by omega,by simp only;omega,one⟩
theorem fx(s:ByteArray)(i j:Nat):ac (s.extract i s.size) j=ac s (i+j):=by unfold ac;rw[ByteArray.data_extract,Array.toList_extract,qG,jA (by rw[gY];exact Nat.le_of_eq rfl),gR,qH,<-gR]
theorem BP(s:ByteArray)(i j:Nat):Utf8.decode (s.extract i s.size) j=Utf8.decode s (i+j):=by(have D:(s.extract i s.size).size=s.size-i:=by rw[jW];omega);rw[l9,l9,fx,fx,fx,fx,D];(have M:(j+1<s.size-i)=(i+j+1<s.size):=by rw[eq_iff_iff];omega);(have J:(j+2<s.size-i)=(i+j+2<s.size):=by rw[eq_iff_iff];omega);(have I:(j+3<s.size-i)=(i+j+3<s.size):=by rw[eq_iff_iff];omega);simp only[M,J,I,Nat.add_assoc]
def bi(en:Nat):List UInt8->Bool->Nat->Option Nat
 |[],_,_=>none
 |c::r,true,k=>if c.toNat=10 then none else bi en r false (k+1)
 |c::r,false,k=>
  if c.toNat=92/\en=34 then bi en r true (k+1)
  else if c.toNat=en then some k
  else if c.toNat=10/\en≠96 then none
  else bi en r false (k+1)
theorem oO(en:Nat)(I:en<128):∀(n:Nat)(l:List UInt8)(b:Bool)(k:Nat),n<=l.length->(∀m,m<n->128<=(l.getD m 0).toNat)->bi en l b k=bi en (l.drop n) (b&&n==0) (k+n)
 |0,l,b,k,_,_=>by simp
 |n+1,[],b,k,h,_=>by simp at h
 | n+1,c::r,b,k,h,D=>by
  have J:128<=c.toNat:=D 0 (by omega);have ih:=oO en I n r false (k+1) (by simpa using h) (fun m hm=>by simpa using D (m+1) (by omega));have e:bi en (c::r) b k=bi en r false (k+1):=by
   cases b with
   |true=>rw[bi,d5 (by omega)]
   |false=>rw[bi,d5 (by omega),d5 (by omega),d5 (by omega)]
  rw[e,ih];simp only[vm,jG];rw[show k+1+n=k+(n+1)by omega,show(b&&(n+1==0))=false by simp]
section
variable {P:Program} {ops:Array Oper} {Q:Exit->Act->World->Prop} {md:Region.Mode} {S:World->Prop} {L:Nat}
def r8(md:Region.Mode)(ops:Array Oper)(listed:Array Bool):Prop:=
 ∀(j:Nat)(o:Oper),ops[j]? = some o->listed.getD j false=true->∀e∈o.after,Region.binds md e=true->listed.getD e.on false=true
def tX(md:Region.Mode)(ops:Array Oper)(listed:Array Bool):Bool:=
 (List.range ops.size).all fun j =>!listed.getD j false||((ops[j]?).map (·.after.all fun e =>!Region.binds md e||listed.getD e.on false)).getD true
theorem GJ{listed:Array Bool}(h:tX md ops listed=true):r8 md ops listed:=by intro j o ho J e he hb;unfold tX at h;rw[qI]at h;have D:=h j (List.mem_range.2 (Array.getElem?_eq_some_iff.1 ho).1);rw[ho,J]at D;simp only[Bool.not_true,vi,qf,vz,Array.all_eq_true_iff_forall_mem]at D;have I:=D e he;rw[hb]at I;simpa using I
theorem D6{listed:Array Bool}(h:r8 md ops listed){i:Nat}(M:i∈Region.ready md ops listed):r8 md ops (listed.setIfInBounds i true):=by
 intro j o ho hj e he hb;by_cases I:i=j
 ·subst I;obtain⟨_,o',D,J⟩:=mem_ready.1 M;rw[ho]at D;injection D with D;subst D;exact getD_set_true (J e he hb)
 ·rw[getD_set_ne false I]at hj;exact getD_set_true (h j o ho hj e he hb)
def yI(md:Region.Mode)(ops:Array Oper):List Nat->Bool
 |a::b::r=>((ops[b]?).map (·.after.any fun e=>Region.binds md e&&e.on==a)).getD false&&yI md ops (b::r)
 |_=>true
theorem tF{listed:Array Bool}(hc:r8 md ops listed)(hL:L∈Region.ready md ops listed):∀(p:List Nat)(a:Nat),yI md ops (a::p)=true->p.getLast? = some L->listed.getD a false=true
 |[],_,_,h=>by simp at h
 | b::r,a,N,O=>by
  unfold yI at N;rw[gB]at N;obtain⟨D,hr⟩:=N;cases M:ops[b]? with
  |none=>rw[M]at D;simp at D
  |some o=>
   rw[M]at D;simp only[qf,vz]at D;rw[Array.any_eq_true']at D;obtain⟨e,he,D⟩:=D;rw[gB,kF]at D;obtain⟨hb,rfl⟩:=D;cases r with
   |nil=>simp at O;subst O;obtain⟨_,o',I,J⟩:=mem_ready.1 hL;rw[M]at I;injection I with I;subst I;exact J e he hb
   |cons c r'=>have U:=tF hc hL (c::r') b hr (by simpa using O);exact hc b o M U e he hb
def lj(P:Program)(md:Region.Mode)(ops:Array Oper)(Q:Exit->Act->World->Prop)(S:World->Prop)(L:Nat):Nat->Array Bool->Act->World->Prop
 |0,listed,a,w=>Region.ready md ops listed=[]/\Q .normal a w
 |fuel+1,listed,a,w=>
  (Region.ready md ops listed=[]->Q .normal a w) /\
  ∀i∈Region.ready md ops listed,wpOp P ops Q i (fun a' w'=>(S w'\/i=L)/\lj P md ops Q S L fuel (listed.setIfInBounds i true) a' w') a w
theorem uO:∀(fuel:Nat)(listed:Array Bool)(a:Act)(w:World),lj P md ops Q S L fuel listed a w->wpAny P md ops Q fuel listed a w
 |0,_,_,_,h=>h
 |fuel+1,_,_,_,h=>⟨h.1,fun i hi=>wpOp_mono (fun a' w' h'=>uO fuel _ a' w' h'.2) (h.2 i hi)⟩
theorem AH{i:Nat}{oi:Oper}{v:Value}(hi:ops[i]? = some oi)(M:∀(j:Nat)(o:Oper)cs b,ops[j]? = some o->o.op≠.select cs b)
  (hQ:∀c a w,Q (.panic c) (a.put oi.dst v) w->Q (.panic c) a w)(p:List Nat)(hp:yI md ops (i::p)=true)(hl:p.getLast? = some L):
  ∀ (fuel:Nat)(listed:Array Bool)(a:Act)(w:World),r8 md ops listed ->
    (∀j oj,ops[j]? = some oj->j≠i->listed.getD j true=false->(∀e∈oj.after,Region.binds md e=true->e.on≠i)->oi.apart ops oj=true) ->
    i∈Region.ready md ops listed->YieldsIf P ops S oi v a->S w ->
    lj P md ops Q S L fuel (listed.setIfInBounds i true) (a.put oi.dst v) w->lj P md ops Q S L (fuel+1) listed a w:=by
 intro fuel;induction fuel with
 |zero=>
  intro listed a w _ _ O hy hS H;refine⟨fun h=>(by rw[h]at O;cases O),fun j hj=>?_⟩;by_cases D:j=i
  ·subst D;exact hy.wpOp hi hS ⟨.inl hS,H⟩
  ·have:=ready_mono hj D;rw[H.1]at this;cases this
 | succ fuel ih=>
  intro listed a w hcl I O hy hS H;refine⟨fun h=>(by rw[h]at O;cases O),fun j hj=>?_⟩;by_cases D:j=i
  ·subst D;exact hy.wpOp hi hS ⟨.inl hS,H⟩
  ·have h1:=H.2 j (ready_mono hj D);obtain⟨N,oj,U,gg⟩:=mem_ready.1 hj;have ga:listed.getD i false=false:=by
    have h0:=(mem_ready.1 O).1;rcases kN i listed.size with h'|h'
    ·simp[h']at h0 |-;exact h0
    ·simp[Array.getElem?_eq_none h']
   (have ge:j≠L:=by rintro rfl;rw[tF hcl hj p i hp hl]at ga;cases ga);(have gb:∀e∈oj.after,Region.binds md e=true->e.on≠i:=fun e he hb heq=>by have h1:=gg e he hb;rw[heq,ga]at h1;cases h1);have h2:=wpOp_putIf U (I j oj U D N gb) (fun cs b=>M i oi cs b hi) (fun cs b=>M j oj cs b U) hQ hy h1;have J:∀k ok,ops[k]? = some ok->k≠i->(listed.setIfInBounds j true).getD k true=false ->
     (∀e∈ok.after,Region.binds md e=true->e.on≠i)->oi.apart ops ok=true:=fun k ok hk hki hun hno=>by
    refine I k ok hk hki ?_ hno;by_cases gd:j=k
    ·subst gd;exact N
    ·rw[getD_set_ne true gd]at hun;exact hun
   refine wpOp_mono (fun a' w' h3=>⟨.inl (h3.2.1.resolve_right ge),ih (listed.setIfInBounds j true) a' w' (D6 hcl hj) J (ready_mono O (Ne.symm D)) h3.1 (h3.2.1.resolve_right ge) ?_⟩) h2;rw[Array.setIfInBounds_comm _ _ D];exact h3.2.2
theorem Cq{i:Nat}{oi:Oper}{v:Value}{fuel:Nat}{listed:Array Bool}{a:Act}{w:World}(p:List Nat)(D:ops[i]? = some oi)
  (U:tX md ops listed=true)(M:yI md ops (i::p)=true)(N:p.getLast? = some L)
  (hs:Region.noSelect ops=true)(O:Region.free md ops listed i=true)(J:(Region.ready md ops listed).contains i=true)
  (hQ:∀c a w,Q (.panic c) (a.put oi.dst v) w->Q (.panic c) a w)(I:YieldsIf P ops S oi v a)(hS:S w)
  (h:lj P md ops Q S L fuel (listed.setIfInBounds i true) (a.put oi.dst v) w):lj P md ops Q S L (fuel+1) listed a w:=
 AH D (Region.noSelect_spec hs) hQ p M N fuel listed a w (GJ U) (Region.free_spec D O) (by simpa using J) I hS h
theorem Cr(i:Nat){oi:Oper}{v:Value}{fuel:Nat}{listed:Array Bool}{a:Act}{w:World}(p:List Nat)(O:S w)
  (h:lj P md ops Q S L fuel (listed.setIfInBounds i true) (a.put oi.dst v) w)(N:ops[i]? = some oi:=by rfl)
  (D:(tX md ops listed&&(yI md ops (i::p)&&(Region.noSelect ops&&(Region.free md ops listed i&&(Region.ready md ops listed).contains i))))=true:=by kernel_rfl)(M:p.getLast? = some L:=by rfl)
  (U:∀c a w,Q (.panic c) (a.put oi.dst v) w->Q (.panic c) a w:=by exact fun _ _ _ h=>h)(J:Region.wanted oi (yielded ops a.tmps)=true:=by rfl)
  (I:∀w,S w->(execOp a.eval oi).run P w=.ok (.value v) w:=by intro w hSw;(try dsimp only[SS]at hSw);go_simp;try(with_reducible rfl)):lj P md ops Q S L (fuel+1) listed a w:=by simp only[gB]at D;exact Cq p N D.1 D.2.1 M D.2.2.1 D.2.2.2.1 D.2.2.2.2 U (Or.inl ⟨J,I⟩) O h
def dH(P:Program)(md:Region.Mode)(ops:Array Oper)(Q:Exit->Act->World->Prop)(S:World->Prop)(L:Nat)(fuel:Nat)(listed:Array Bool)(a:Act)(w:World)(rs:List Nat):Prop:=
 ∀i∈rs,wpOp P ops Q i (fun a' w'=>(S w'\/i=L)/\lj P md ops Q S L fuel (listed.setIfInBounds i true) a' w') a w
theorem dH.nil{fuel:Nat}{listed:Array Bool}{a:Act}{w:World}:dH P md ops Q S L fuel listed a w []:=fun _ h=>by cases h
theorem dH.cons{fuel:Nat}{listed:Array Bool}{a:Act}{w:World}{i:Nat}{o:Oper}{rs:List Nat}(I:ops[i]? = some o)
  (h:∀K':Act->World->Prop,Shut (∀a w,(S w\/i=L)->(S w\/i=L->lj P md ops Q S L fuel (listed.setIfInBounds i true) a w)->K' a w)->if Region.wanted o (yielded ops a.tmps)=true then Oper.wp P o a w K' Q else K' (a.put o.dst undef) w)
  (hs:dH P md ops Q S L fuel listed a w rs):dH P md ops Q S L fuel listed a w (i::rs):=fun j hj=>by
 rcases List.mem_cons.1 hj with rfl|hj
 ·exact wpOp_step I (fun K' hK=>h K' (fun a w D J=>hK a w ⟨D,J D⟩))
 ·exact hs j hj
theorem a8{rs:List Nat}{fuel:Nat}{listed:Array Bool}{a:Act}{w:World}(I:Region.ready md ops listed=rs)(D:rs≠[])
  (h:dH P md ops Q S L fuel listed a w rs):lj P md ops Q S L (fuel+1) listed a w:=
 ⟨fun J=>absurd (I▸J) D,I▸h⟩
theorem lI{listed:Array Bool}{a:Act}{w:World}(D:Region.ready md ops listed=[])(h:Q .normal a w):
  ∀fuel,lj P md ops Q S L fuel listed a w
 |0=>⟨D,h⟩
 |_+1=>⟨fun _=>h,by rw[D];simp⟩
theorem mI(L:Nat){id:Nat}{a:Act}{w:World}(D:P.follows .mixedOrders=true)(I:S w.drew)
  (h:S w.drew->lj P .any ops Q S L ops.size (Array.replicate ops.size false) a w.drew):(Code.region id ops true).wp P Q a w:=
 wp_region_any D (uO _ _ _ _ (h I))
end
section
variable {c:Cx} {i i' j j' m:Nat}
theorem Cw{i:Nat}(h:c.toks.length<=i):ay c i=⟨0,⟨#[]⟩,c.fin⟩:=by unfold ay;rw[qZ h]
theorem Cy{i:Nat}(h:i<c.toks.length):ay c i=c.toks[i]:=by unfold ay;rw[gN h]
theorem Pg{s:St}{x:ByteArray}(h:aS c s x=true):s.at_<c.toks.length:=by
 rcases kN s.at_ c.toks.length with D|D
 ·exact D
 ·unfold aS Te at h;rw[Cw D]at h;simp at h
end
section
variable {c:Cx} {g:Nat} {F:iE}
end
mutual
def m8:Nd->Nd
 | .mk k t l _=>.mk k t (nK l) 0
def nK:List Nd->List Nd
 |[]=>[]
 |n::l=>m8 n::nK l
end
theorem eB(k t l a):m8 (.mk k t l a)=.mk k t (nK l) 0:=by rw[m8]
theorem lB:∀l,nK l=l.map m8
 |[]=>by rw[nK];rfl
 |n::l=>by rw[nK,lB l];rfl
theorem Fc(l m:List Nd):nK (l++m)=nK l++nK m:=by rw[lB,lB,lB,kT]
def co(n m:Nd):Prop:=m8 n=m8 m
def bF(l m:List Nd):Prop:=nK l=nK m
section
variable {n m:Nd} {l l':List Nd}
theorem co.kind(h:co n m):n.kind=m.kind:=by obtain⟨k,t,l,a⟩:=n;obtain⟨k',t',l',a'⟩:=m;unfold co at h;rw[eB,eB]at h;injection h
theorem co.text(h:co n m):n.text=m.text:=by obtain⟨k,t,l,a⟩:=n;obtain⟨k',t',l',a'⟩:=m;unfold co at h;rw[eB,eB]at h;injection h
theorem co.kids(h:co n m):bF n.kids m.kids:=by obtain⟨k,t,l,a⟩:=n;obtain⟨k',t',l',a'⟩:=m;unfold co at h;rw[eB,eB]at h;injection h
theorem co.mk{k t}(h:bF l l')(a a':Int):co (.mk k t l a) (.mk k t l' a'):=by unfold co;rw[eB,eB,show nK l=nK l' from h]
theorem bF.len(h:bF l l'):l.length=l'.length:=by have:=jM List.length h;rw[lB,lB,jT,jT]at this;exact this
theorem bF.nil:bF [] []:=rfl
theorem bF.app(h:bF l l'){p q:List Nd}(D:bF p q):bF (l++p) (l'++q):=by unfold bF;rw[Fc,Fc,show nK l=nK l' from h,show nK p=nK q from D]
theorem bF.cons(h:co n m)(D:bF l l'):bF (n::l) (m::l'):=by unfold bF;rw[nK,nK,show m8 n=m8 m from h,show nK l=nK l' from D]
theorem bF.one(h:co n m):bF [n] [m]:=bF.cons h bF.nil
theorem co.refl(n:Nd):co n n:=rfl
end
mutual
theorem pE:∀n:Nd,bK (m8 n)=(bK n).map m8
 | .mk k t l a=>by
  rw[eB];unfold bK;by_cases J:k=10\/k=11\/k=12
  ·rw[gF J,gF J,qf,eB]
  ·rw [d5 J,d5 J];by_cases I:k=18
   ·rw[gF I,gF I,qf,eB,nK]
   ·rw [d5 I,d5 I];by_cases D:k=22
    ·rw [gF D,gF D];cases l with
     |nil=>rw[nK];rfl
     | cons x r=>
      rw[nK];simp only;rw[pE x,uU r];cases bK x with
      |none=>rfl
      | some y=>
       obtain⟨O,M,N,a2⟩:=y;simp only[qf,eB,lB,jT];split
       ·cases cx r with
        |none=>rfl
        |some r'=>simp only[qf,eB,lB]
       ·rfl
    ·rw[d5 D,d5 D];rfl
theorem uU:∀l:List Nd,cx (nK l)=(cx l).map nK
 |[]=>by rw[nK];unfold cx;rfl
 |x::r=>by
  rw[nK];unfold cx;rw[pE x,uU r];cases bK x with
  |none=>rfl
  | some y=>cases cx r with
    |none=>rfl
    |some r'=>simp only[qf,nK]
end
theorem Ed{n n':Nd}(h:co n n'):(bK n=none/\bK n'=none)\/∃t t',bK n=some t/\bK n'=some t'/\co t t':=by
 (have e:(bK n).map m8=(bK n').map m8:=by rw[<-pE,<-pE,show m8 n=m8 n' from h]);cases I:bK n with
 |none=>
  cases D:bK n' with
  |none=>exact .inl ⟨rfl,rfl⟩
  |some y=>rw[I,D]at e;cases e
 |some x=>
  cases D:bK n' with
  |none=>rw[I,D]at e;cases e
  |some y=>rw[I,D]at e;injection e with e;exact .inr ⟨x,y,rfl,rfl,e⟩
end
section
open Go.RowKit Go.Lib Go.Proofs
attribute [local go_sem ↓] Go.wp_at_zero Go.wp_at_succ
def ng(t:cO):List Value:=[.int .i64 t.kind,.string t.text,.int .i64 t.pos]
theorem fu(t:cO):(ng t).length=3:=rfl
structure cy where
 R:Nat
 A:Option Addr
 cap:Nat
 c:Cx
 w0:World
def rH(E:cy)(s:St):Array Value:=#[.slice E.A E.c.toks.length E.cap,.int .i64 s.at_,.int .i64 E.c.fin,.bool s.head,.int .i64 s.part]
def Oq(E:cy)(w:World):Prop:=∀b,b<E.R->w.heap[b]? = E.w0.heap[b]?
structure aU(E:cy)(w:World)(s:St):Prop where
 blk:an w E.R 62 (rH E s)
 toks:eW (· < E.R) w 3 E.A E.c.toks.length (E.c.toks.flatMap ng)
 le:s.at_<=E.c.toks.length
 most:E.c.toks.length<=1000000
 fits:E.c.toks.length<=E.cap
 old:Oq E w
section
variable {E:cy} {w w':World} {s s':St}
theorem aU.lt(h:aU E w s):E.R<w.heap.size:=h.blk.lt
theorem aU.keep(h:aU E w s)(D:∀b,b<=E.R->w'.heap[b]? = w.heap[b]?):aU E w' s:=
 ⟨(D _ (gA _)).trans h.blk,h.toks.keep (fun b hb _=>D b (jR hb)),h.le,h.most,h.fits,fun b hb=>(D b (jR hb)).trans (h.old b hb)⟩
theorem aU.below(h:aU E w s)(hb:Below w w w'):aU E w' s:=h.keep fun b hbR=>hb.block b (Nat.lt_of_le_of_lt hbR h.lt)
theorem aU.drew(h:aU E w s):aU E w.drew s:=h.below (gG _ _).drew
theorem aU.drewN(h:aU E w s)(n:Nat):aU E (w.drewN n) s:=h.below (below_drewN (gG _ _) n)
theorem aU.alloc(h:aU E w s)(o:Obj):aU E (w.alloc o) s:=h.below ((gG _ _).alloc (gA _) o)
theorem aU.far(h:aU E w s){p:Addr}(D:E.R<p.block)(u:Value):aU E (w.setCell p u) s:=
 h.keep fun b hb=>jN w p u b (by omega)
theorem aU.grown(h:aU E w s){row:Option Nat}(I:w.grownBy w' row)(D:∀g,row=some g->E.R<g):aU E w' s:=
 h.keep fun b hb=>I.block b (Nat.lt_of_le_of_lt hb h.lt) (fun e=>by have:=D b e.symm;omega)
theorem aU.toks_keep(h:aU E w s)(D:w.grownBy w' (some E.R)):eW (· < E.R) w' 3 E.A E.c.toks.length (E.c.toks.flatMap ng):=
 h.toks.keep fun b hb hlt=>D.block b hlt (fun e=>by injection e with e;omega)
theorem aU.setAt(h:aU E w s)(n:Nat)(D:n<=E.c.toks.length):aU E (w.setCell ⟨E.R,1,none⟩ (.int .i64 (n:Int))) { s with at_:=n } :=
 ⟨by simpa[rH]using h.blk.set_ 1 (.int .i64 (n:Int)),h.toks_keep (iu _ _ _ _),D,h.most,h.fits,fun k hk=>(jN w _ _ k (by show k≠E.R;omega)).trans (h.old k hk)⟩
theorem aU.setHead(h:aU E w s)(b:Bool):aU E (w.setCell ⟨E.R,3,none⟩ (.bool b)) { s with head:=b } :=
 ⟨by simpa[rH]using h.blk.set_ 3 (.bool b),h.toks_keep (iu _ _ _ _),h.le,h.most,h.fits,fun k hk=>(jN w _ _ k (by show k≠E.R;omega)).trans (h.old k hk)⟩
theorem aU.setPart(h:aU E w s)(n:Int):aU E (w.setCell ⟨E.R,4,none⟩ (.int .i64 n)) { s with part:=n } :=
 ⟨by simpa[rH]using h.blk.set_ 4 (.int .i64 n),h.toks_keep (iu _ _ _ _),h.le,h.most,h.fits,fun k hk=>(jN w _ _ k (by show k≠E.R;omega)).trans (h.old k hk)⟩
theorem aU.cells(h:aU E w s):w.cell? ⟨E.R,0,none⟩=some (.slice E.A E.c.toks.length E.cap)/\w.cell? ⟨E.R,1,none⟩=some (.int .i64 s.at_)/\w.cell? ⟨E.R,2,none⟩=some (.int .i64 E.c.fin) /\
  w.cell? ⟨E.R,3,none⟩=some (.bool s.head)/\w.cell? ⟨E.R,4,none⟩=some (.int .i64 s.part)/\(∀i,w.frozen? ⟨E.R,i,none⟩=false):=by have c0:=h.blk.cell 0;have c1:=h.blk.cell 1;have c2:=h.blk.cell 2;have c3:=h.blk.cell 3;have c4:=h.blk.cell 4;simp[rH]at c0 c1 c2 c3 c4;exact⟨c0,c1,c2,c3,c4,h.blk.frozen⟩
theorem aU.tok(h:aU E w s)(i:Nat)(D:i<E.c.toks.length):∃b off,E.A=some ⟨b,off,none⟩/\b<E.R/\w.cell? ⟨b,off+i*3,none⟩=some (.int .i64 (ay E.c i).kind) /\
  w.cell? ⟨b,off+i*3+1,none⟩=some (.string (ay E.c i).text)/\w.cell? ⟨b,off+i*3+2,none⟩=some (.int .i64 (ay E.c i).pos):=by
 obtain⟨b,off,e,hb,I⟩:=h.toks.2 (by omega);(have J:ay E.c i=E.c.toks[i]:=by unfold ay;rw[gN D]);rw[J];refine⟨b,off,e,hb,I (i*3) _ ?_,I (i*3+1) _ ?_,I (i*3+2) _ ?_⟩
 ·have:=iF fu E.c.toks i 0 D (by omega);rw[jD]at this;rw[this];rfl
 ·rw[iF fu E.c.toks i 1 D (by omega)];rfl
 ·rw[iF fu E.c.toks i 2 D (by omega)];rfl
theorem nh(c:Cx)(i:Nat)(h:c.toks.length<=i):ay c i=⟨0,⟨#[]⟩,c.fin⟩:=by unfold ay;rw[qZ h]
end
def iI(t:cO):Value:=.agg #[t.kind,t.text,t.pos]
theorem bg{B:Nat}{a w:World}(h:Below B a w)(n:Nat):Below B a (w.drewN n):=h.trans ⟨rfl,rfl,rfl,gA _,fun _ _=>rfl⟩
theorem bel{p:Prop}(h:p:=by repeat'(first|with_reducible exact gG _ _|with_reducible refine Below.alloc ?_ ?_ _|with_reducible refine Below.setCell ?_ ?_ _|with_reducible refine Below.drew ?_ |with_reducible refine bg ?_ _|(simp<;>omega)|omega)):p:=h
theorem lU{p:Prop}(h:p:=by repeat'(first|with_reducible assumption|with_reducible exact gG _ _|with_reducible refine Below.alloc ?_ ?_ _|with_reducible refine Below.setCell ?_ ?_ _|with_reducible refine Below.drew ?_ |with_reducible refine bg ?_ _|(simp<;>omega)|omega)):p:=h
theorem b8(E:cy)(s:St)(w:World)(h:aU E w s):Calls prog 62 #[E.R] w fun e w'=>e=.returned (iI (ay E.c s.at_))/\Below w w w':=by
 obtain⟨c0,c1,c2,_,_,_⟩:=h.cells;have M:=h.lt;have ga:=qi M;have J:=h.most;by_cases D:s.at_=E.c.toks.length
 ·have N:=nh E.c s.at_ (by omega);rw[N];rw[D]at c1;clear N D h;(go_enter func62,ntmps62);go_wp2_with fail;go_quiet (fail);go_wp2_with fail;refine jV (v:=iI ⟨0,⟨#[]⟩,E.c.fin⟩) (by simp[results,iI,results62,go_sem]) rfl ⟨rfl,?_⟩;exact bel
 ·(have I:s.at_<E.c.toks.length:=by have:=h.le;omega);obtain⟨b,off,eA,hb,t0,t1,t2⟩:=h.tok s.at_ I;rw[eA]at c0;(have g1:((s.at_:Int)==(E.c.toks.length:Int))=false:=by simp;omega);(have g2:(0:Int)<=(s.at_:Int):=by omega);(have g3:(s.at_:Int)<(E.c.toks.length:Int):=by omega);(have U:b<w.heap.size:=by omega);(have O:b≠w.heap.size:=by omega);clear D h eA;(go_enter func62,ntmps62);go_wp2_with fail;go_quiet (fail);go_wp2_with fail;go_region;go_wp2_with fail;refine jV (v:=iI (ay E.c s.at_)) (by simp[results,iI,results62,go_sem]) rfl ⟨rfl,?_⟩;exact bel
end
end Go.Proofs.YtiebcdeafofgdaaGreatDoor
