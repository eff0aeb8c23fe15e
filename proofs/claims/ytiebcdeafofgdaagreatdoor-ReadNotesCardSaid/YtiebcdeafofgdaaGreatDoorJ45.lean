/-
  Parts of the proof: Prel. By an AI agent.
-/
import Derived.Test.YtiebcdeafofgdaaGreatDoorJ04
namespace Go.Proofs.YtiebcdeafofgdaaGreatDoor
section
mutual
def iZ:Nd→Nd
 | .mk k t l _=>.mk k t (nC l) 0
def nC:List Nd→List Nd
 | []=>[]
 | n::l=>iZ n::nC l
end
theorem dt (k t l a):iZ (.mk k t l a)=.mk k t (nC l) 0:=by rw [iZ]
theorem fo:∀ l,nC l=l.map iZ
 | []=>by rw [nC];rfl
 | n::l=>by rw [nC,fo l];rfl
theorem Dd (l m:List Nd):nC (l++m)=nC l++nC m:=by rw [fo,fo,fo,List.map_append]
def cJ (n m:Nd):Prop:=iZ n=iZ m
def aT (l m:List Nd):Prop:=nC l=nC m
section
variable {n m:Nd} {l l':List Nd}
theorem cJ.kind (h:cJ n m):n.kind=m.kind:=by obtain ⟨k,t,l,a⟩:=n;obtain ⟨k',t',l',a'⟩:=m;unfold cJ at h;rw [dt,dt] at h;injection h
theorem cJ.text (h:cJ n m):n.text=m.text:=by obtain ⟨k,t,l,a⟩:=n;obtain ⟨k',t',l',a'⟩:=m;unfold cJ at h;rw [dt,dt] at h;injection h
theorem cJ.kids (h:cJ n m):aT n.kids m.kids:=by obtain ⟨k,t,l,a⟩:=n;obtain ⟨k',t',l',a'⟩:=m;unfold cJ at h;rw [dt,dt] at h;injection h
theorem cJ.mk {k t} (h:aT l l') (a a':Int):cJ (.mk k t l a) (.mk k t l' a'):=by unfold cJ;rw [dt,dt,show nC l=nC l' from h]
theorem aT.len (h:aT l l'):l.length=l'.length:=by have:=congrArg List.length h;rw [fo,fo,List.length_map,List.length_map] at this;exact this
theorem aT.nil:aT [] []:=rfl
theorem aT.app (h:aT l l') {p q:List Nd} (D:aT p q):aT (l++p) (l'++q):=by unfold aT;rw [Dd,Dd,show nC l=nC l' from h,show nC p=nC q from D]
theorem aT.cons (h:cJ n m) (D:aT l l'):aT (n::l) (m::l'):=by unfold aT;rw [nC,nC,show iZ n=iZ m from h,show nC l=nC l' from D]
theorem aT.one (h:cJ n m):aT [n] [m]:=aT.cons h aT.nil
theorem cJ.refl (n:Nd):cJ n n:=rfl
end
def tS (f:Int→Int) (t:bE):bE := { t with pos:=f t.pos }
def ii (d:Int):bE→bE:=tS fun p=>p+d
structure Mc (c c':Cx) (k:Nat) (d:Int→Int):Prop where
 drop:c'.toks.drop k=c.toks.map (tS d)
 len:c'.toks.length=c.toks.length+k
def Ei (c c':Cx) (d:Int→Int) (p p':Int):Prop:=p'=d p∨(p=c.fin∧p'=c'.fin)
structure mg (k:Nat) (s s':St):Prop where
 at_:s'.at_=s.at_+k
 head:s'.head=s.head
 part:∀ m:Nat,s'.part=((m+k:Nat):Int)↔s.part=(m:Int)
def a6 {α:Type} (c c':Cx) (k:Nat) (d:Int→Int) (Q:α→α→Prop):cZ α→cZ α→Prop
 | .ok a s,.ok a' s'=>Q a a'∧mg k s s'
 | .fail p,.fail p'=>Ei c c' d p p'
 | .out,.out=>True
 | _,_=>False
section
variable {c c':Cx} {k:Nat} {d:Int→Int}
theorem a6.bindE {α β:Type} {Q:α→α→Prop} {Q':β→β→Prop} {r r':cZ α} {f f':α→St→cZ β} (h:a6 c c' k d Q r r') (D:∀ a a' s s',r=.ok a s→Q a a'→mg k s s'→a6 c c' k d Q' (f a s) (f' a' s')):a6 c c' k d Q' (r.bind f) (r'.bind f'):=by
 cases r <;> cases r' <;> first | exact h.elim | skip
 ·exact D _ _ _ _ rfl h.1 h.2
 ·exact h
 ·trivial
theorem a6.bind {α β:Type} {Q:α→α→Prop} {Q':β→β→Prop} {r r':cZ α} {f f':α→St→cZ β} (h:a6 c c' k d Q r r') (D:∀ a a' s s',Q a a'→mg k s s'→a6 c c' k d Q' (f a s) (f' a' s')):a6 c c' k d Q' (r.bind f) (r'.bind f'):=
 h.bindE fun a a' s s' _=>D a a' s s'
theorem a6.ok {α:Type} {Q:α→α→Prop} {a a':α} {s s':St} (h:Q a a') (hs:mg k s s'):a6 c c' k d Q (.ok a s) (.ok a' s'):=⟨h,hs⟩
theorem a6.ite {α:Type} {Q:α→α→Prop} {p p':Prop} [Decidable p] [Decidable p'] {x y x' y':cZ α} (D:p'↔p) (J:a6 c c' k d Q x x') (I:a6 c c' k d Q y y'):a6 c c' k d Q (if p then x else y) (if p' then x' else y'):=by
 by_cases h:p
 ·rw [if_pos h,if_pos (D.2 h)];exact J
 ·rw [if_neg h,if_neg (fun h'=>h (D.1 h'))];exact I
variable (hE:Mc c c' k d)
include hE
theorem nm (i:Nat):(am c' (i+k)).kind=(am c i).kind∧(am c' (i+k)).text=(am c i).text∧Ei c c' d (am c i).pos (am c' (i+k)).pos:=by
 rcases Nat.lt_or_ge i c.toks.length with h | h
 ·(have h':i+k<c'.toks.length:=by rw [hE.len];omega);(have e:c'.toks[i+k]? = some (tS d c.toks[i]):=by have:=congrArg (·[i]?) hE.drop;simp only [List.getElem?_drop,List.getElem?_map,List.getElem?_eq_getElem h,Option.map_some] at this;rw [Nat.add_comm];exact this);rw [f7 h];unfold am;rw [e];exact ⟨rfl,rfl,.inl rfl⟩
 ·rw [lL h,lL (c:=c') (by rw [hE.len];omega)];exact ⟨rfl,rfl,.inr ⟨rfl,rfl⟩⟩
omit hE in
theorem mg.adv {s s':St} (h:mg k s s'):mg k (adv s) (adv s'):=⟨by show s'.at_+1=s.at_+1+k;rw [h.at_];omega,h.head,h.part⟩
omit hE in
theorem mg.hd {s s':St} (h:mg k s s') (b:Bool):mg k { s with head:=b } { s' with head:=b } := ⟨h.at_,rfl,h.part⟩
omit hE in
theorem mg.hd2 {s s' t t':St} (h:mg k s s') (D:mg k t t'):mg k { s with head:=t.head } { s' with head:=t'.head } := ⟨h.at_,D.head,h.part⟩
omit hE in
theorem mg.pt {s s':St} (h:mg k s s'):mg k { s with part:=(s.at_:Int) } { s' with part:=(s'.at_:Int) } := ⟨h.at_,h.head,fun m=>by show ((s'.at_:Nat):Int)=_↔((s.at_:Nat):Int)=_;rw [h.at_];omega⟩
omit hE in
theorem mg.no {s s':St} (h:mg k s s'):mg k { s with part := -1 } { s' with part := -1 } := ⟨h.at_,h.head,fun m=>by show (-1:Int)=_↔(-1:Int)=_;omega⟩
omit hE in
theorem mg.to {s s':St} (h:mg k s s') (j:Nat):mg k { s with at_:=s.at_+j } { s' with at_:=s'.at_+j } := ⟨by show s'.at_+j=s.at_+j+k;rw [h.at_];omega,h.head,h.part⟩
variable {s s':St} (hs:mg k s s')
include hs
theorem oa:(am c' s'.at_).kind=(am c s.at_).kind∧(am c' s'.at_).text=(am c s.at_).text∧Ei c c' d (am c s.at_).pos (am c' s'.at_).pos:=by rw [hs.at_];exact nm hE _
theorem dD (x:ByteArray):aE c' s' x=aE c s x:=by obtain ⟨I,D,-⟩:=oa hE hs;unfold aE yJ;rw [I,D]
theorem bc (x:ByteArray):aE c' s' x=true↔aE c s x=true:=by rw [dD hE hs]
theorem ic {α:Type} {Q:α→α→Prop} : a6 c c' k d Q (.fail (an c s)) (.fail (an c' s')):=(oa hE hs).2.2
theorem mJ:db c' s'=db c s:=by unfold db;rw [dD hE hs,dD hE hs]
theorem Ej:oZ c' s'=oZ c s:=by unfold oZ;rw [dD hE hs,dD hE hs,dD hE hs,(oa hE hs).1]
theorem tT:fx c' s'=fx c s:=by unfold fx;rw [dD hE hs,dD hE hs]
theorem Ek:mg k (dA c s) (dA c' s'):=by
 unfold dA;rw [mJ hE hs];split
 ·exact hs.adv
 ·exact hs
omit hs in
theorem L3 (i:Nat):(match c'.toks[i+k]? with | some t=>t.kind==6&&decide (t.text=(⟨#[93]⟩:BA)) | none=>false)=(match c.toks[i]? with | some t=>t.kind==6&&decide (t.text=(⟨#[93]⟩:BA)) | none=>false):=by (have e:c'.toks[i+k]? = (c.toks[i]?).map (tS d):=by have:=congrArg (·[i]?) hE.drop;simp only [List.getElem?_drop,List.getElem?_map] at this;rw [Nat.add_comm];exact this);rw [e];cases c.toks[i]? <;> rfl
theorem oH:dq c' s'=dq c s:=by unfold dq;rw [dD hE hs,hs.at_,show s.at_+k+1=s.at_+1+k by omega];exact congrArg (aE c s (⟨#[91]⟩:BA) && ·) (L3 hE (s.at_+1))
theorem de (x:ByteArray):a6 c c' k d (fun _ _=>True) (need x c s) (need x c' s'):=by unfold need;exact a6.ite (bc hE hs x) ⟨trivial,hs.adv⟩ (ic hE hs)
theorem ie:a6 c c' k d (fun x y=>x=y) (bQ c s) (bQ c' s'):=by obtain ⟨I,D,-⟩:=oa hE hs;unfold bQ;exact a6.ite (by rw [I]) ⟨D.symm,hs.adv⟩ (ic hE hs)
omit hs
def Rl (c c':Cx) (k:Nat) (d:Int→Int) (f f':R Nd):Prop:=∀ s s',mg k s s'→a6 c c' k d cJ (f c s) (f' c' s')
theorem mh {part part':R Nd} (J:Rl c c' k d part part') (en:ByteArray):∀ (g:Nat) (acc acc':List Nd) (s s':St),aT acc acc'→mg k s s'→a6 c c' k d aT (aO part en g acc c s) (aO part' en g acc' c' s')
 | 0,_,_,_,_,_,_=>trivial
 | g+1,acc,acc',s,s',D,hs=>by unfold aO;refine a6.ite (bc hE hs _) ⟨D,hs.adv⟩ ((J s s' hs).bind fun n n' s1 s1' hn I=>a6.ite (bc hE I _) ⟨D.app (aT.one hn),I.adv⟩ ((de hE I _).bind fun _ _ s2 s2' _ h2=>mh J en g _ _ s2 s2' (D.app (aT.one hn)) h2))
omit hE in
theorem ob {α:Type} {Q:α→α→Prop} {p p':R α} {s s':St} (hs:mg k s s') (D:∀ s s',mg k s s'→a6 c c' k d Q (p c s) (p' c' s')):a6 c c' k d Q (bU p c s) (bU p' c' s'):=
 (D _ _ (hs.hd false)).bind fun _ _ _ _ J I=>⟨J,I.hd2 hs⟩
omit hE in
theorem od {α:Type} {Q:α→α→Prop} {p p':R α} {s s':St} (hs:mg k s s') (D:∀ s s',mg k s s'→a6 c c' k d Q (p c s) (p' c' s')):a6 c c' k d Q (bG p c s) (bG p' c' s'):=
 (D _ _ (hs.hd true)).bind fun _ _ _ _ J I=>⟨J,I.hd2 hs⟩
structure L4 (c c':Cx) (k:Nat) (d:Int→Int) (F:eB):Prop where
 typ:Rl c c' k d F.typ F.typ
 expr:Rl c c' k d F.expr F.expr
 unary:Rl c c' k d F.unary F.unary
 stmt:Rl c c' k d F.stmt F.stmt
 ifS:Rl c c' k d F.ifS F.ifS
variable {F:eB} (hF:L4 c c' k d F)
include hF
theorem tU:Rl c c' k d (cu F) (cu F):=fun s s' hs=>by unfold cu;exact a6.ite (by rw [Ej hE hs]) (hF.typ s s' hs) ⟨cJ.refl _,hs⟩
omit hE in
theorem Cu:Rl c c' k d (fJ F) (fJ F):=fun s s' hs=>(hF.typ s s' hs).bind fun _ _ _ _ h1 D=>⟨cJ.mk (aT.one h1) _ _,D⟩
theorem Bf:Rl c c' k d (dF F) (dF F):=fun s s' hs=>by unfold dF;refine (ie hE hs).bind fun x y s1 s1' hx h1=>?_;subst hx;exact (hF.typ s1 s1' h1).bind fun _ _ _ _ h2 D=>⟨cJ.mk (aT.one h2) _ _,D⟩
theorem rf (p p':Int):Rl c c' k d (cz F p) (cz F p'):=fun _ _ hs=>
 (de hE hs _).bind fun _ _ s1 s1' _ h1=>(mh hE (Cu hF) _ F.g [] [] s1 s1' aT.nil h1).bind fun _ _ s2 s2' hl h2=>(tU hE hF s2 s2' h2).bind fun _ _ _ _ hr D=>⟨cJ.mk (aT.cons (cJ.mk hl _ _) (aT.one hr)) _ _,D⟩
theorem De (p p':Int):Rl c c' k d (mw F p) (mw F p'):=fun _ _ hs=>
 (de hE hs _).bind fun _ _ s1 s1' _ h1=>(mh hE (Bf hE hF) _ F.g [] [] s1 s1' aT.nil h1).bind fun _ _ s2 s2' hl h2=>(tU hE hF s2 s2' h2).bind fun _ _ _ _ hr D=>⟨cJ.mk (aT.cons (cJ.mk hl _ _) (aT.one hr)) _ _,D⟩
theorem II:Rl c c' k d (pu F) (pu F):=fun s s' hs=>by
 unfold pu;refine a6.ite (bc hE hs _) ?_ (a6.ite (bc hE hs _) ?_ (a6.ite (bc hE hs _) (rf hE hF _ _ _ _ hs.adv) ?_))
 ·exact (hF.typ _ _ hs.adv).bind fun t t' s1 s1' J D=>(de hE D _).bind fun _ _ _ _ _ I=>⟨J,I⟩
 ·exact (de hE hs.adv _).bind fun _ _ s1 s1' _ D=>(hF.typ _ _ D).bind fun t t' _ _ J I=>⟨cJ.mk (aT.one J) _ _,I⟩
 ·refine (ie hE hs).bind fun x y s1 s1' hx D=>?_;subst hx;refine a6.ite (by rw [dD hE D,oH hE D]) ?_ ⟨cJ.mk aT.nil _ _,D⟩;exact (mh hE hF.typ _ F.g [] [] _ _ aT.nil D.adv).bind fun l l' s2 s2' hl I=>a6.ite (by rw [hl.len]) (ic hE I) ⟨cJ.mk hl _ _,I⟩
theorem Bg:Rl c c' k d (ij F) (ij F):=fun s s' hs=>by unfold ij;exact a6.ite (bc hE hs _) ((hF.typ _ _ hs.adv).bind fun _ _ _ _ h1 D=>⟨cJ.mk (aT.one h1) _ _,D⟩) ((hF.typ _ _ hs).bind fun _ _ _ _ h1 D=>⟨cJ.mk (aT.one h1) _ _,D⟩)
theorem sa (p p':Int):∀ (g:Nat) (acc acc':List Nd) (s s':St),aT acc acc'→mg k s s'→a6 c c' k d cJ (dM F p g acc c s) (dM F p' g acc' c' s')
 | 0,_,_,_,_,_,_=>trivial
 | g+1,acc,acc',s,s',D,hs=>by unfold dM;exact a6.ite (bc hE hs _) ((Bg hE hF _ _ hs.adv).bind fun t t' s1 s1' ht h1=>sa p p' g _ _ s1 s1' (D.app (aT.one ht)) h1) ⟨cJ.mk D _ _,hs⟩
theorem wm (p p':Int):Rl c c' k d (dK F p) (dK F p'):=fun s s' hs=>(Bg hE hF s s' hs).bind fun _ _ _ _ ht h1=>sa hE hF p p' F.g _ _ _ _ (aT.one ht) h1
theorem wn (p p':Int):Rl c c' k d (eC F p) (eC F p'):=fun _ _ hs=>
 (de hE hs _).bind fun _ _ s1 s1' _ h1=>(wm hE hF p p' s1 s1' h1).bind fun _ _ _ _ D h2=>(de hE (Ek hE h2) _).bind fun _ _ _ _ _ I=>⟨D,I⟩
omit hE hF in
theorem Df (n:Nd):fK (iZ n)=(fK n).map iZ:=by
 obtain ⟨k,t,l,a⟩:=n;rw [dt];unfold fK;rw [Nd.kids_mk,Nd.kids_mk,fo];cases l with
 | nil=>rfl
 | cons x r=>cases r with
   | cons y r=>rfl
   | nil=>
    obtain ⟨kx,tx,lx,ax⟩:=x;simp only [List.map_cons,List.map_nil,dt,Nd.kids_mk,fo];cases lx with
    | nil=>rfl
    | cons z r=>
     obtain ⟨kz,tz,lz,az⟩:=z;rw [List.map_cons,dt];show (if tx=(⟨#[]⟩:BA)∧kz=10 then some (Nd.mk kz tz (nC lz) 0) else none)=Option.map iZ (if tx=(⟨#[]⟩:BA)∧kz=10 then some (Nd.mk kz tz lz az) else none);by_cases hc:tx=(⟨#[]⟩:BA)∧kz=10
     ·rw [if_pos hc,if_pos hc,Option.map_some,dt]
     ·rw [if_neg hc,if_neg hc];rfl
omit hE hF in
theorem Ge {n n':Nd} (h:cJ n n'):cJ ((fK n).getD n) ((fK n').getD n'):=by
 (have e:(fK n).map iZ=(fK n').map iZ:=by rw [←Df,←Df,show iZ n=iZ n' from h]);cases I:fK n with
 | none=>
  cases D:fK n' with
  | none=>exact h
  | some y=>rw [I,D] at e;cases e
 | some x=>
  cases D:fK n' with
  | none=>rw [I,D] at e;cases e
  | some y=>rw [I,D] at e;injection e
theorem tV:Rl c c' k d (cP F) (cP F):=fun s s' hs=>by unfold cP;exact a6.ite (bc hE hs _) (wn hE hF _ _ _ _ hs.adv) ((wm hE hF _ _ _ _ hs).bind fun _ _ _ _ hn D=>⟨Ge hn,D⟩)
theorem uw:Rl c c' k d (cK F) (cK F):=fun s s' hs=>by unfold cK;refine (ie hE hs).bind fun x y s1 s1' hx h1=>?_;subst hx;exact (tV hE hF s1 s1' h1).bind fun _ _ _ _ h2 D=>⟨cJ.mk (aT.one h2) _ _,D⟩
theorem tW:Rl c c' k d (dG F) (dG F):=fun s s' hs=>by unfold dG;refine a6.ite (by rw [dD hE hs,oH hE hs]) ?_ ⟨cJ.refl _,hs⟩;exact (mh hE (uw hE hF) _ F.g [] [] _ _ aT.nil hs.adv).bind fun l l' s2 s2' hl D=>a6.ite (by rw [hl.len]) (ic hE D) ⟨cJ.mk hl _ _,D⟩
theorem nn (p p':Int):∀ (g:Nat) (acc acc':List Nd) (s s':St),aT acc acc'→mg k s s'→a6 c c' k d cJ (co F p g acc c s) (co F p' g acc' c' s')
 | 0,_,_,_,_,_,_=>trivial
 | g+1,acc,acc',s,s',I,hs=>by unfold co;refine a6.ite (bc hE hs _) ⟨cJ.mk I _ _,hs.adv⟩ ((ie hE hs).bind fun x y s1 s1' hx h1=>?_);subst hx;refine (hF.typ s1 s1' h1).bind fun t t' s2 s2' ht h2=>?_;have D:=I.app (aT.one (cJ.mk (k:=9) (t:=x) (aT.one ht) (an c s) (an c' s')));exact a6.ite (by rw [mJ hE h2]) (nn p p' g _ _ _ _ D h2.adv) (a6.ite (bc hE h2 _) (nn p p' g _ _ _ _ D h2) (ic hE h2))
theorem Cv (p p':Int):Rl c c' k d (eK F p) (eK F p'):=fun _ _ hs=>(de hE hs _).bind fun _ _ s1 s1' _ h1=>nn hE hF p p' F.g [] [] s1 s1' aT.nil h1
theorem rh:Rl c c' k d (cM F) (cM F):=fun s s' hs=>by unfold cM;refine (de hE hs _).bind fun _ _ s1 s1' _ h1=>(ie hE h1).bind fun x y s2 s2' hx h2=>?_;subst hx;refine a6.ite (bc hE h2 _) ((hF.expr _ _ h2.adv).bind fun _ _ _ _ hv D=>⟨cJ.mk (aT.cons (cJ.refl _) (aT.one hv)) _ _,D⟩) ?_;refine (hF.typ _ _ h2).bind fun t t' s3 s3' ht D=>a6.ite (bc hE D _) ((hF.expr _ _ D.adv).bind fun _ _ _ _ hv I=>⟨cJ.mk (aT.cons ht (aT.one hv)) _ _,I⟩) ⟨cJ.mk (aT.cons ht (aT.one (cJ.refl _))) _ _,D⟩
theorem yq (p p':Int):Rl c c' k d (eo F p) (eo F p'):=fun s s' hs=>by unfold eo;refine (ie hE hs).bind fun x y s1 s1' hx h1=>?_;subst hx;refine (tW hE hF s1 s1' h1).bind fun q q' s2 s2' hq h2=>?_;refine a6.ite (bc hE h2 _) ((hF.typ _ _ h2.adv).bind fun _ _ _ _ ht D=>⟨cJ.mk (aT.cons hq (aT.one ht)) _ _,D⟩) (a6.ite (bc hE h2 _) ((Cv hE hF _ _ _ _ h2.adv).bind fun _ _ _ _ ht D=>⟨cJ.mk (aT.cons hq (aT.one ht)) _ _,D⟩) (a6.ite (bc hE h2 _) ((wn hE hF _ _ _ _ h2.adv).bind fun _ _ _ _ ht D=>⟨cJ.mk (aT.cons hq (aT.one ht)) _ _,D⟩) ((hF.typ _ _ h2).bind fun _ _ _ _ ht D=>⟨cJ.mk (aT.cons hq (aT.one ht)) _ _,D⟩)))
theorem mi (p p':Int):∀ (g:Nat) (acc acc':List Nd) (s s':St),aT acc acc'→mg k s s'→a6 c c' k d cJ (ck F p g acc c s) (ck F p' g acc' c' s')
 | 0,_,_,_,_,_,_=>trivial
 | g+1,acc,acc',s,s',I,hs=>by unfold ck;refine a6.ite (bc hE hs _) ⟨cJ.mk I _ _,hs.adv⟩ (a6.ite (by rw [mJ hE hs]) (mi p p' g _ _ _ _ I hs.adv) ((hF.stmt s s' hs).bind fun n n' s1 s1' D h1=>?_));have D:=I.app (aT.one D);exact a6.ite (by rw [mJ hE h1]) (mi p p' g _ _ _ _ D h1.adv) (a6.ite (bc hE h1 _) (mi p p' g _ _ _ _ D h1) (ic hE h1))
theorem iv:Rl c c' k d (bm F) (bm F):=fun _ _ hs=>ob hs fun _ _ ht=>(de hE ht _).bind fun _ _ s1 s1' _ h1=>mi hE hF _ _ F.g [] [] s1 s1' aT.nil h1
theorem Gf:Rl c c' k d (lB F) (lB F):=fun s s' hs=>by unfold lB;refine a6.ite (bc hE hs _) ?_ (a6.ite (bc hE hs _) (yq hE hF _ _ _ _ hs.adv) (rh hE hF s s' hs));refine (ie hE hs.adv).bind fun x y s1 s1' hx h1=>?_;subst hx;exact (tW hE hF s1 s1' h1).bind fun q q' s2 s2' hq h2=>(De hE hF _ _ s2 s2' h2).bind fun g g' s3 s3' hg h3=>(iv hE hF s3 s3' h3).bind fun _ _ _ _ hb D=>⟨cJ.mk (aT.cons hq (aT.cons hg (aT.one hb))) _ _,D⟩
theorem Bh (p p':Int) {x x':Nd} (D:cJ x x'):Rl c c' k d (fc F p x) (fc F p' x'):=fun s s' hs=>by
 unfold fc;refine a6.ite (by rw [D.kind,D.text,dD hE hs]) ?_ (a6.ite (bc hE hs _) ?_ (a6.ite (bc hE hs _) ⟨cJ.mk (aT.one D) _ _,hs.adv⟩ (a6.ite (bc hE hs _) ⟨cJ.mk (aT.one D) _ _,hs.adv⟩ (a6.ite (by rw [D.kind]) ⟨cJ.mk (aT.one D) _ _,hs⟩ (ic hE hs)))))
 ·rw [D.text];exact (hF.expr _ _ hs.adv).bind fun _ _ _ _ hv I=>⟨cJ.mk (aT.one hv) _ _,I⟩
 ·exact (hF.expr _ _ hs.adv).bind fun _ _ _ _ hv I=>⟨cJ.mk (aT.cons D (aT.one hv)) _ _,I⟩
theorem tX:Rl c c' k d (fl F) (fl F):=fun s s' hs=>(hF.expr s s' hs).bind fun _ _ _ _ hx h1=>Bh hE hF _ _ hx _ _ h1
theorem Gg:Rl c c' k d (Dt F) (Dt F):=fun s s' hs=>by unfold Dt;refine (de hE hs _).bind fun _ _ s1 s1' _ h1=>(od h1 hF.expr).bind fun x x' s2 s2' hx h2=>(iv hE hF s2 s2' h2).bind fun b b' s3 s3' hb D=>?_;exact a6.ite (bc hE D _) (a6.ite (bc hE D.adv _) ((hF.ifS _ _ D.adv).bind fun _ _ _ _ ho I=>⟨cJ.mk (aT.cons hx (aT.cons hb (aT.one ho))) _ _,I⟩) ((iv hE hF _ _ D.adv).bind fun _ _ _ _ ho I=>⟨cJ.mk (aT.cons hx (aT.cons hb (aT.one ho))) _ _,I⟩)) ⟨cJ.mk (aT.cons hx (aT.cons hb (aT.one (cJ.refl _)))) _ _,D⟩
theorem Cw:Rl c c' k d (eM F) (eM F):=fun s s' hs=>(hF.expr s s' hs).bind fun _ _ _ _ I D=>a6.ite (bc hE D _) ⟨I,D⟩ (Bh hE hF _ _ I _ _ D)
theorem Gh:Rl c c' k d (dw F) (dw F):=fun s s' hs=>(tX hE hF s s' hs).bind fun x x' s1 s1' D I=>a6.ite (by rw [D.kind]) (by rw [hs.at_,show s.at_+k+1=s.at_+1+k by omega];exact (nm hE _).2.2) ⟨D,I⟩
def LF (h h':Nd × Nd × Nd):Prop:=cJ h.1 h'.1∧cJ h.2.1 h'.2.1∧cJ h.2.2 h'.2.2
theorem Gi (s s':St) (hs:mg k s s'):a6 c c' k d LF (iI F c s) (iI F c' s'):=by
 have tail:∀ (a a':Nd) (t t':St),cJ a a'→mg k t t'→a6 c c' k d LF
   ((need (⟨#[59]⟩:BA) c t).bind fun _ s1=>(if aE c s1 (⟨#[59]⟩:BA) then .ok bJ s1 else bG F.expr c s1).bind fun b s2=>(need (⟨#[59]⟩:BA) c s2).bind fun _ s3=>(if aE c s3 (⟨#[123]⟩:BA) then .ok bJ s3 else bG (dw F) c s3).bind fun d s4=>.ok (a,b,d) s4)
   ((need (⟨#[59]⟩:BA) c' t').bind fun _ s1=>(if aE c' s1 (⟨#[59]⟩:BA) then .ok bJ s1 else bG F.expr c' s1).bind fun b s2=>(need (⟨#[59]⟩:BA) c' s2).bind fun _ s3=>(if aE c' s3 (⟨#[123]⟩:BA) then .ok bJ s3 else bG (dw F) c' s3).bind fun d s4=>.ok (a',b,d) s4):=fun a a' t t' M ht=>
  (de hE ht _).bind fun _ _ s1 s1' _ D=>(a6.ite (Q:=cJ) (bc hE D _) (a6.ok (cJ.refl _) D) (od D hF.expr)).bind fun b b' s2 s2' hb h2=>(de hE h2 _).bind fun _ _ s3 s3' _ h3=>(a6.ite (Q:=cJ) (bc hE h3 _) (a6.ok (cJ.refl _) h3) (od h3 (Gh hE hF))).bind fun e e' s4 s4' J N=>⟨⟨M,hb,J⟩,N⟩
 unfold iI;refine a6.ite (bc hE hs _) (tail _ _ s s' (cJ.refl _) hs) ((od hs (Cw hE hF)).bind fun x x' s1 s1' I D=>?_);exact a6.ite (by rw [I.kind]) (ic hE D) (a6.ite (by rw [I.kind]) ⟨⟨cJ.refl _,I,cJ.refl _⟩,D⟩ (tail x x' s1 s1' I D))
omit hF in
theorem Cy {s s':St} (hs:mg k s s'):(cv c s=none∧cv c' s'=none)∨∃ x t t',cv c s=some (x,t)∧cv c' s'=some (x,t')∧mg k t t':=by
 (have hd:c'.toks.drop s'.at_=(c.toks.drop s.at_).map (tS d):=by rw [hs.at_,Nat.add_comm,←List.drop_drop,hE.drop,List.map_drop]);unfold cv;simp only;rw [dD hE hs,hd];by_cases M:aE c s (⟨#[114,97,110,103,101]⟩:BA)=true
 ·rw [if_pos M,if_pos M];exact .inr ⟨_,_,_,rfl,rfl,hs.adv⟩
 ·rw [if_neg M,if_neg M];have D:∀ l:List bE,cG (l.map (tS d))=cG l:=by
   intro l;unfold cG;rw [List.any_map];have:((fun t:bE=>t.kind==5) ∘ tS d)=fun t:bE=>t.kind==5:=rfl;rw [this];split
   ·rfl
   ·cases l with
    | nil=>rfl
    | cons t r=>simp only [List.map_cons,List.foldl_map];rfl
  generalize c.toks.drop s.at_=l
  match l with
  | []=>exact .inl ⟨rfl,rfl⟩
  | [_]=>exact .inl ⟨rfl,rfl⟩
  | [_,_]=>exact .inl ⟨rfl,rfl⟩
  | a::b::e::r=>
   have O:=D [a,b,e];have N:=D ((a::b::e::r).take 5);rw [List.map_take] at N;simp only [List.map_cons,List.map_nil] at O N ⊢;rw [O,N];by_cases J:a.kind=1∧a.text≠(⟨#[95]⟩:BA)∧cG [a,b,e]=a.text++(⟨#[32,58,61,32,114,97,110,103,101]⟩:BA)
   ·rw [if_pos J,if_pos (show (tS d a).kind=1∧(tS d a).text≠(⟨#[95]⟩:BA)∧cG [a,b,e]=(tS d a).text++(⟨#[32,58,61,32,114,97,110,103,101]⟩:BA) from J)];exact .inr ⟨_,_,_,rfl,rfl,hs.to 3⟩
   ·rw [if_neg J,if_neg (show ¬ ((tS d a).kind=1∧(tS d a).text≠(⟨#[95]⟩:BA)∧cG [a,b,e]=(tS d a).text++(⟨#[32,58,61,32,114,97,110,103,101]⟩:BA)) from J)];by_cases I:a.kind=1∧e.kind=1∧e.text≠(⟨#[95]⟩:BA)∧cG ((a::b::e::r).take 5)=a.text++(⟨#[32,44,32]⟩:BA)++e.text++(⟨#[32,58,61,32,114,97,110,103,101]⟩:BA)
    ·rw [if_pos I,if_pos (show (tS d a).kind=1∧(tS d e).kind=1∧(tS d e).text≠(⟨#[95]⟩:BA)∧cG ((a::b::e::r).take 5)=(tS d a).text++(⟨#[32,44,32]⟩:BA)++(tS d e).text++(⟨#[32,58,61,32,114,97,110,103,101]⟩:BA) from I)];exact .inr ⟨_,_,_,rfl,rfl,hs.to 5⟩
    ·rw [if_neg I,if_neg (show ¬ ((tS d a).kind=1∧(tS d e).kind=1∧(tS d e).text≠(⟨#[95]⟩:BA)∧cG ((a::b::e::r).take 5)=(tS d a).text++(⟨#[32,44,32]⟩:BA)++(tS d e).text++(⟨#[32,58,61,32,114,97,110,103,101]⟩:BA)) from I)];exact .inl ⟨rfl,rfl⟩
theorem IJ:Rl c c' k d (sf F) (sf F):=fun s s' hs=>by
 unfold sf;refine (de hE hs _).bind fun _ _ s1 s1' _ h1=>?_;rcases Cy hE h1 with ⟨M,J⟩ | ⟨x,t,t',M,J,I⟩
 ·rw [M,J];show a6 c c' k d cJ ((if aE c s1 (⟨#[123]⟩:BA) then .ok (bJ,bJ,bJ) s1 else iI F c s1).bind fun h s2=>(bm F c s2).bind fun b s3=>.ok (Nd.mk 31 (⟨#[]⟩:BA) [h.1,h.2.1,h.2.2,b] (an c s)) s3) ((if aE c' s1' (⟨#[123]⟩:BA) then .ok (bJ,bJ,bJ) s1' else iI F c' s1').bind fun h s2=>(bm F c' s2).bind fun b s3=>.ok (Nd.mk 31 (⟨#[]⟩:BA) [h.1,h.2.1,h.2.2,b] (an c' s')) s3);exact (a6.ite (Q:=LF) (bc hE h1 _) (a6.ok ⟨cJ.refl _,cJ.refl _,cJ.refl _⟩ h1) (Gi hE hF s1 s1' h1)).bind fun h h' s2 s2' hh I=>(iv hE hF s2 s2' I).bind fun _ _ _ _ hb D=>⟨cJ.mk (aT.cons hh.1 (aT.cons hh.2.1 (aT.cons hh.2.2 (aT.one hb)))) _ _,D⟩
 ·rw [M,J];show a6 c c' k d cJ ((bG F.expr c t).bind fun e s3=>(bm F c s3).bind fun b s4=>.ok (Nd.mk 32 x [e,b] (an c s)) s4) ((bG F.expr c' t').bind fun e s3=>(bm F c' s3).bind fun b s4=>.ok (Nd.mk 32 x [e,b] (an c' s')) s4);exact (od I hF.expr).bind fun _ _ s3 s3' he D=>(iv hE hF s3 s3' D).bind fun _ _ _ _ hb N=>⟨cJ.mk (aT.cons he (aT.one hb)) _ _,N⟩
theorem Gj:Rl c c' k d (rQ F) (rQ F):=fun s s' hs=>by unfold rQ;refine a6.ite (bc hE hs _) (rh hE hF s s' hs) (a6.ite (bc hE hs _) (Gg hE hF s s' hs) (a6.ite (bc hE hs _) (IJ hE hF s s' hs) (a6.ite (bc hE hs _) (iv hE hF s s' hs) (a6.ite (bc hE hs _) ?_ (a6.ite (bc hE hs _) ⟨cJ.mk aT.nil _ _,hs.adv⟩ (a6.ite (bc hE hs _) ⟨cJ.mk aT.nil _ _,hs.adv⟩ (tX hE hF s s' hs)))))));exact a6.ite (by rw [mJ hE hs.adv,dD hE hs.adv]) ⟨cJ.mk (aT.one (cJ.refl _)) _ _,hs.adv⟩ ((hF.expr _ _ hs.adv).bind fun _ _ _ _ hx D=>⟨cJ.mk (aT.one hx) _ _,D⟩)
omit hF in
theorem El {s s':St} (hs:mg k s s'):fq c' s'=fq c s:=by have D:=hs.to 2;unfold fq;rw [dD hE D,dD hE D,oH hE D,hs.at_,hE.len,show s.at_+k+1=s.at_+1+k by omega,show s.at_+k+2=s.at_+2+k by omega,(nm hE (s.at_+1)).1,(nm hE (s.at_+2)).1];congr 1;rw [decide_eq_decide];omega
theorem yr (p p':Int) (types:Bool):Rl c c' k d (cN F p types) (cN F p' types):=fun s s' hs=>by
 unfold cN;refine a6.ite ?_ ?_ ?_
 ·rw [El hE hs,hs.at_,hE.len,show s.at_+k+1=s.at_+1+k by omega,(nm hE (s.at_+1)).2.1];constructor
  ·rintro ⟨D,J,z,N⟩;exact ⟨D,J,by omega,N⟩
  ·rintro ⟨D,J,z,N⟩;exact ⟨D,J,by omega,N⟩
 ·exact (rf hE hF p p' s s' hs).bind fun _ _ _ _ O D=>a6.ite (by rw [tT hE D]) ⟨O,D⟩ (ic hE D)
 ·refine (De hE hF p p' s s' hs).bind fun g g' s1 s1' M D=>?_;have U:(g'.kids.headD bJ).kids.length=(g.kids.headD bJ).kids.length:=by
   have h:=M.kids;obtain ⟨_,_,l,_⟩:=g;obtain ⟨_,_,l',_⟩:=g';have h:aT l l':=h;show (l'.headD bJ).kids.length=(l.headD bJ).kids.length;have I:=h.len;cases l with
   | nil=>cases l' with
     | nil=>rfl
     | cons _ _=>cases I
   | cons x r=>cases l' with
     | nil=>cases I
     | cons y q=>unfold aT at h;rw [nC,nC] at h;injection h with h _;exact (cJ.kids (show cJ x y from h)).len.symm
  exact a6.ite (by rw [U,tT hE D]) ⟨M,D⟩ ((iv hE hF s1 s1' D).bind fun _ _ _ _ hb J=>⟨cJ.mk (aT.cons M (aT.one hb)) _ _,J⟩)
theorem sc {t t':Nd} (D:cJ t t'):Rl c c' k d (cg F t) (cg F t'):=fun _ _ hs=>(de hE hs _).bind fun _ _ _ _ _ h1=>(ob h1 fun u u' hu=>mh hE hF.expr _ F.g [] [] u u' aT.nil hu).bind fun _ _ _ _ hl I=>⟨cJ.mk (aT.cons D hl) _ _,I⟩
theorem Cz (types:Bool):Rl c c' k d (eN F types) (eN F types):=fun s s' hs=>(hF.typ s s' hs).bind fun t t' s1 s1' I D=>a6.ite (by rw [tT hE D]) ⟨I,D⟩ (sc hE hF I s1 s1' D)
omit hE hF in
mutual
theorem oI:∀ n:Nd,bF (iZ n)=(bF n).map iZ
 | .mk k t l a=>by
  rw [dt];unfold bF;by_cases J:k=10∨k=11∨k=12
  ·rw [if_pos J,if_pos J,Option.map_some,dt]
  ·rw [if_neg J,if_neg J];by_cases I:k=18
   ·rw [if_pos I,if_pos I,Option.map_some,dt,nC]
   ·rw [if_neg I,if_neg I];by_cases D:k=22
    ·rw [if_pos D,if_pos D];cases l with
     | nil=>rw [nC];rfl
     | cons x r=>
      rw [nC];simp only;rw [oI x,tY r];cases bF x with
      | none=>rfl
      | some y=>
       obtain ⟨O,M,N,a2⟩:=y;simp only [Option.map_some,dt,fo,List.length_map];split
       ·cases cH r with
        | none=>rfl
        | some r'=>simp only [Option.map_some,dt,fo]
       ·rfl
    ·rw [if_neg D,if_neg D];rfl
theorem tY:∀ l:List Nd,cH (nC l)=(cH l).map nC
 | []=>by rw [nC];unfold cH;rfl
 | x::r=>by
  rw [nC];unfold cH;rw [oI x,tY r];cases bF x with
  | none=>rfl
  | some y=>cases cH r with
    | none=>rfl
    | some r'=>simp only [Option.map_some,nC]
end
omit hE hF in
theorem CA {n n':Nd} (h:cJ n n'):(bF n=none∧bF n'=none)∨∃ t t',bF n=some t∧bF n'=some t'∧cJ t t':=by
 (have e:(bF n).map iZ=(bF n').map iZ:=by rw [←oI,←oI,show iZ n=iZ n' from h]);cases I:bF n with
 | none=>
  cases D:bF n' with
  | none=>exact .inl ⟨rfl,rfl⟩
  | some y=>rw [I,D] at e;cases e
 | some x=>
  cases D:bF n' with
  | none=>rw [I,D] at e;cases e
  | some y=>rw [I,D] at e;injection e with e;exact .inr ⟨x,y,rfl,rfl,e⟩
omit hE in
theorem yu:Rl c c' k d (cA F) (cA F):=fun _ _ hs=>hF.expr _ _ hs.pt
def Mi (x y:Nd × Bool):Prop:=cJ x.1 y.1∧x.2=y.2
theorem Bi (s s':St) (hs:mg k s s'):a6 c c' k d Mi (cT F c s) (cT F c' s'):=by
 obtain ⟨N,M,h⟩:=oa hE hs;(have O:decide (s'.part=(s'.at_:Int))=decide (s.part=(s.at_:Int)):=by rw [decide_eq_decide,hs.at_];exact hs.part s.at_);have D:=hs.no;unfold cT;simp only;rw [O];refine a6.ite (by rw [N]) ⟨⟨by rw [M];exact cJ.mk aT.nil _ _,rfl⟩,D.adv⟩ (a6.ite (by rw [N]) ⟨⟨by rw [M];exact cJ.mk aT.nil _ _,rfl⟩,D.adv⟩ (a6.ite (by rw [N]) ⟨⟨by rw [M];exact cJ.mk aT.nil _ _,rfl⟩,D.adv⟩ (a6.ite (bc hE D _) ?_ (a6.ite (bc hE D _) ?_ (a6.ite (by rw [oH hE D]) ?_ h)))))
 ·exact (ob D.adv hF.expr).bind fun _ _ s1 s1' I J=>(de hE J _).bind fun _ _ _ _ _ U=>⟨⟨I,rfl⟩,U⟩
 ·exact (yr hE hF _ _ _ _ _ D.adv).bind fun _ _ _ _ I J=>⟨⟨I,rfl⟩,J⟩
 ·exact (Cz hE hF _ _ _ D).bind fun _ _ _ _ I J=>⟨⟨I,rfl⟩,J⟩
omit hE hF in
theorem wq {part:R Nd} {en:ByteArray} {c:Cx} : ∀ (g:Nat) (acc:List Nd) (s:St) (l:List Nd) (s1:St),aO part en g acc c s=.ok l s1→1≤s1.at_
 | 0,_,_,_,_,h=>by cases h
 | g+1,acc,s,l,s1,h=>by
  unfold aO at h;split at h
  ·injection h with _ h;subst h;exact Nat.succ_le_succ (Nat.zero_le _)
  ·cases D:part c s with
   | out=>rw [D] at h;cases h
   | fail p=>rw [D] at h;cases h
   | ok n t=>
    rw [D] at h;simp only [cZ.bind_ok] at h;split at h
    ·injection h with _ h;subst h;exact Nat.succ_le_succ (Nat.zero_le _)
    ·cases I:need (⟨#[44]⟩:BA) c t with
     | out=>rw [I] at h;cases h
     | fail p=>rw [I] at h;cases h
     | ok u t2=>rw [I] at h;exact wq g _ t2 l s1 h
theorem fi:∀ (g:Nat) (x x':Nd) (b:Bool) (s s':St),cJ x x'→mg k s s'→a6 c c' k d cJ (aN F g x b c s) (aN F g x' b c' s')
 | 0,_,_,_,_,_,_,_=>trivial
 | g+1,x,x',b,s,s',I,hs=>by
  unfold aN;refine a6.ite (bc hE hs _) ?_ (a6.ite (bc hE hs _) ?_ (a6.ite (bc hE hs _) ?_ (a6.ite (by rw [dD hE hs,hs.head]) ?_ ⟨I,hs⟩)))
  ·exact (ob hs.adv fun u u' hu=>mh hE hF.expr _ F.g [] [] u u' aT.nil hu).bind fun l l' s1 s1' hl h1=>fi g _ _ false s1 s1' (cJ.mk (aT.cons I hl) _ _) h1
  ·refine (ob hs.adv fun u u' hu=>mh hE (yu hF) _ F.g [] [] u u' aT.nil hu).bindE fun l l' s1 s1' D hl h1=>a6.ite (by rw [hl.len]) ?_ (fi g _ _ b s1 s1' (cJ.mk (aT.cons I hl) _ _) h1);have U:1≤s1.at_:=by
    unfold bU at D;cases J:aO (cA F) (⟨#[93]⟩:BA) F.g [] c { adv s with head:=false } with
    | out=>rw [J] at D;cases D
    | fail p=>rw [J] at D;cases D
    | ok m t=>rw [J] at D;have:=wq _ _ _ _ _ J;injection D with _ D;subst D;exact this
   rw [h1.at_,show s1.at_+k-1=s1.at_-1+k by omega];exact (nm hE _).2.2
  ·refine (ie hE hs.adv).bind fun y y' s1 s1' hy h1=>?_;subst hy;exact fi g _ _ false s1 s1' (cJ.mk (aT.one I) _ _) h1
  ·rcases CA I with ⟨N,M⟩ | ⟨t,t',N,M,O⟩
   ·rw [N,M];exact ⟨I,hs⟩
   ·rw [N,M];show a6 c c' k d cJ ((cg F t c s).bind fun n s1=>aN F g n false c s1) ((cg F t' c' s').bind fun n s1=>aN F g n false c' s1);exact (sc hE hF O s s' hs).bind fun n n' s1 s1' hn h1=>fi g n n' false s1 s1' hn h1
theorem Bj:Rl c c' k d (dY F) (dY F):=fun s s' hs=>(Bi hE hF s s' hs).bind fun x x' s1 s1' hx h1=>by rw [←hx.2];exact fi hE hF F.g _ _ _ s1 s1' hx.1 h1
theorem wt:Rl c c' k d (eX F) (eX F):=fun s s' hs=>by unfold eX;refine a6.ite (by rw [dD hE hs,dD hE hs]) ?_ (Bj hE hF s s' hs);rw [(oa hE hs).2.1];exact (hF.unary _ _ hs.adv).bind fun _ _ _ _ hx D=>⟨cJ.mk (aT.one hx) _ _,D⟩
omit hF in
theorem wu (n:Nat) {below:R Nd} (hb:Rl c c' k d below below):∀ (g:Nat) (x x':Nd) (s s':St),cJ x x'→mg k s s'→a6 c c' k d cJ (lC n below g x c s) (lC n below g x' c' s')
 | 0,_,_,_,_,_,_=>trivial
 | g+1,x,x',s,s',D,hs=>by obtain ⟨J,I,-⟩:=oa hE hs;unfold lC;refine a6.ite (by unfold LS;rw [J,I]) ?_ ⟨D,hs⟩;rw [I];exact (hb _ _ hs.adv).bind fun y y' s1 s1' hy h3=>wu n hb g _ _ s1 s1' (cJ.mk (aT.cons D (aT.one hy)) _ _) h3
theorem yv:∀ n,Rl c c' k d (im F n) (im F n)
 | 0=>wt hE hF
 | n+1=>fun s s' hs=>(yv n s s' hs).bind fun x x' s1 s1' hx h1=>wu hE (n+1) (yv n) F.g x x' s1 s1' hx h1
theorem tZ (p p':Int) (x:ByteArray):∀ (g:Nat) (acc acc':List Nd) (s s':St),aT acc acc'→mg k s s'→a6 c c' k d cJ (d6 F p x g acc c s) (d6 F p' x g acc' c' s')
 | 0,_,_,_,_,_,_=>trivial
 | g+1,acc,acc',s,s',D,hs=>by unfold d6;refine a6.ite (by rw [mJ hE hs]) (a6.ite (by rw [hs.at_,hE.len];omega) ⟨cJ.mk D _ _,hs.adv⟩ (a6.ite (by rw [dD hE hs.adv,dD hE hs.adv,dD hE hs.adv]) ?_ (ic hE hs.adv))) (ic hE hs);exact (Gf hE hF _ _ hs.adv).bind fun n n' s1 s1' hn h1=>tZ p p' x g _ _ s1 s1' (D.app (aT.one hn)) h1
theorem Bk:Rl c c' k d (cY F) (cY F):=fun s s' hs=>by unfold cY;refine (de hE hs _).bind fun _ _ s1 s1' _ h1=>(ie hE h1).bind fun x y s2 s2' hx h2=>?_;subst hx;exact tZ hE hF _ _ x F.g [] [] s2 s2' aT.nil h2
omit hF in
theorem sw:∀ g,L4 c c' k d (pv g)
 | 0=>⟨fun _ _ _=>trivial,fun _ _ _=>trivial,fun _ _ _=>trivial,fun _ _ _=>trivial,fun _ _ _=>trivial⟩
 | g+1=>by have hF:=sw g;exact ⟨II hE hF,yv hE hF 5,wt hE hF,Gj hE hF,Gg hE hF⟩
end
end
end Go.Proofs.YtiebcdeafofgdaaGreatDoor
