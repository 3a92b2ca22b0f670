/- A part of the seat's proofs over the abstract machine. No condition. -/
import Derived.Test.YtioampofolilnaaGreatWA
import Derived.Test.YtioampofolilnaaGreatMB
set_option linter.unusedSimpArgs false
set_option linter.unusedVariables false
set_option maxRecDepth 100000
namespace Go.Proofs.YtioampofolilnaaGreat.M
open Go Go.Mini
structure Eng where
 l:List Atom
 R:Revs
def Eng.new:Eng:=⟨[],Revs.new⟩
structure Eng.Ok (E:Eng):Prop where
 len:E.l.length≤4000
 txt:∀ a∈E.l,IsCP a.text
 cuts:∀ a∈E.l,a.cuts.length≤E.R.head
theorem Eng.new_ok:Eng.new.Ok:=⟨by simp [Eng.new],by simp [Eng.new],by simp [Eng.new]⟩
def Eng.text (E:Eng) (rev:Int):List UInt8:=atomsText rev (E.R.undone rev) E.l
def editE (E:Eng) (base group rank:Int) (cs:List Chg):Eng × Int × Int:=
 if E.R.live base=false then (E,0,190) else
 if check (E.text base) cs≠0 then (E,0,check (E.text base) cs) else
 if (addR E.R group).2.2≠0 then (E,0,(addR E.R group).2.2) else
 if rank<0∨1000000<rank then (E,0,10) else
 if 4000<(upon E.l base (E.R.undone base) cs (addR E.R group).2.1 group rank).length then (E,0,70) else
 if 20000<(Eng.text ⟨upon E.l base (E.R.undone base) cs (addR E.R group).2.1 group rank,(addR E.R group).1⟩ (addR E.R group).1.head).length then (E,0,13) else
 (⟨upon E.l base (E.R.undone base) cs (addR E.R group).2.1 group rank,(addR E.R group).1⟩,(addR E.R group).2.1,0)
def toggleE (E:Eng) (g:Int):Eng × Int × Int:=
 if (toggleR E.R g).2.2≠0 then (E,0,(toggleR E.R g).2.2) else
 if 20000<(Eng.text ⟨E.l,(toggleR E.R g).1⟩ (toggleR E.R g).1.head).length then (E,0,13) else
 (⟨E.l,(toggleR E.R g).1⟩,(toggleR E.R g).2.1,0)
theorem fits_of {l:List Atom} {n:Nat} (h1:l.length≤4000) (h2:∀ a∈l,IsCP a.text) (h3:∀ a∈l,a.cuts.length≤n) (hn:n≤1000000):Fits l:=by
 refine ⟨by omega,fun a ha=>by have:=h3 a ha;omega,?_⟩
 have:(l.map fun a=>a.text.length).sum≤l.length * 4:=by
  clear h1 h3
  induction l with
  | nil=>simp
  | cons a l ih=>
   have h4:=(cp_len (h2 a (by simp))).2
   have:=ih fun b hb=>h2 b (List.mem_cons_of_mem _ hb)
   simp only [List.map_cons,List.sum_cons,List.length_cons];omega
 unfold maxRoom;omega
theorem atomsText_le {l:List Atom} (rev:Int) (u:List Int) (h2:∀ a∈l,IsCP a.text):(atomsText rev u l).length≤l.length * 4:=by
 induction l with
 | nil=>simp [atomsText]
 | cons a l ih=>
  have h4:=(cp_len (h2 a (by simp))).2
  have:=ih fun b hb=>h2 b (List.mem_cons_of_mem _ hb)
  simp only [atomsText,List.length_append,List.length_cons]
  split <;> (try simp only [List.length_nil]) <;> omega
theorem mem_marked {ct:List Int} {c:Cut} {x:Atom}:∀ {l:List Atom} {i:Nat},x∈marked ct c l i→∃ a∈l,x=a∨x={a with cuts:=a.cuts ++ [c]}
 | [],i,h=>by simp [marked] at h
 | a::l,i,h=>by
  simp only [marked,List.mem_cons] at h
  rcases h with h | h
  ·refine ⟨a,by simp,?_⟩
   split at h
   ·exact .inr h
   ·exact .inl h
  ·obtain ⟨b,hb,h⟩:=mem_marked h
   exact ⟨b,List.mem_cons_of_mem _ hb,h⟩
theorem mem_merged {new:List UInt8→List Atom} {mk:List Atom} {x:Atom}:∀ {r:List (Nat × List UInt8)} {at':Nat},x∈merged new mk r at'→x∈mk∨∃ kt∈r,x∈new kt.2
 | [],at',h=>.inl (List.mem_of_mem_drop (by simpa [merged] using h))
 | (k,t)::r,at',h=>by
  rw [merged_cons,List.mem_append,List.mem_append] at h
  rcases h with (h | h) | h
  ·exact .inl (List.mem_of_mem_take (List.mem_of_mem_drop h))
  ·exact .inr ⟨(k,t),by simp,h⟩
  ·rcases mem_merged h with h | ⟨kt,hk,h⟩
   ·exact .inl h
   ·exact .inr ⟨kt,List.mem_cons_of_mem _ hk,h⟩
theorem mem_upon {l:List Atom} {rev:Int} {u:List Int} {cs:List Chg} {rev' group rank:Int} {x:Atom} (h:x∈upon l rev u cs rev' group rank):
  (∃ a∈l,x=a∨x={a with cuts:=a.cuts ++ [⟨rev',group⟩]})∨(∃ b,IsCP b∧x=⟨b,rev',group,rank,[]⟩):=by
 unfold upon at h
 split at h
 ·rename_i h0
  rcases mem_merged h with h | ⟨kt,hk,h⟩
  ·exact .inl (mem_marked h)
  ·right
   simp only [newAtoms,List.mem_map] at h
   obtain ⟨b,hb,rfl⟩:=h
   refine ⟨b,?_,rfl⟩
   cases hp:pts kt.2 with
   | none=>rw [ptsOf,hp] at hb;cases hb
   | some ps=>rw [ptsOf,hp] at hb;exact (pts_cp _ _ ps (Nat.le_refl _) hp).2 b hb
 ·exact .inl ⟨x,h,.inl rfl⟩
theorem addR_ok {R:Revs} {g:Int} (h:(addR R g).2.2=0) (ho:R.Ok):g∉R.gone∧0≤g∧g<60∧R.head<200∧addR R g=({R.push R.top with grp:=insS g R.grp},(R.head:Int)+1,0)∧(addR R g).1.head=R.head+1:=by
 have hl:=List.length_pos_iff.2 ho.one
 by_cases h1:g∈R.gone∨g<0∨60≤g
 ·rw [add_bad h1] at h;cases h
 ·by_cases h2:200≤R.head
  ·rw [add_many (fun hg=>h1 (.inl hg)) (by omega) (by omega) h2] at h;cases h
  ·have e:=add_good (R:=R) (g:=g) (fun hg=>h1 (.inl hg)) (by omega) (by omega) (by omega)
   refine ⟨fun hg=>h1 (.inl hg),by omega,by omega,by omega,e,?_⟩
   rw [e];simp only [Revs.head,Revs.push,List.length_append,List.length_cons,List.length_nil];omega
theorem toggleR_ok {R:Revs} {g:Int} (h:(toggleR R g).2.2=0) (ho:R.Ok):g∈R.grp∧R.head<200∧toggleR R g=(R.push (flip g R.top),(R.head:Int)+1,0)∧(toggleR R g).1.head=R.head+1:=by
 have hl:=List.length_pos_iff.2 ho.one
 by_cases h1:g∈R.grp
 ·by_cases h2:200≤R.head
  ·simp only [toggleR,if_neg (show ¬g∉R.grp from fun h=>h h1),if_pos h2] at h;cases h
  ·have e:=toggle_of h1 (show R.head<200 by omega)
   refine ⟨h1,by omega,e,?_⟩
   rw [e];simp only [Revs.head,Revs.push,List.length_append,List.length_cons,List.length_nil];omega
 ·rw [toggle_bad h1] at h;cases h
theorem head_le {R:Revs} (h:R.Ok):R.head≤200:=by have:=h.few;simp only [Revs.head];omega
theorem Eng.Ok.fits {E:Eng} (h:E.Ok) (hR:E.R.Ok):Fits E.l:=fits_of h.len h.txt h.cuts (by have:=head_le hR;omega)
theorem upon_facts {E:Eng} (h:E.Ok) {base group rank now:Int} {cs:List Chg} {u:List Int}:(∀ a∈upon E.l base u cs now group rank,IsCP a.text)∧∀ a∈upon E.l base u cs now group rank,a.cuts.length≤E.R.head+1:=by
 constructor <;> intro a ha <;> rcases mem_upon ha with ⟨b,hb,rfl | rfl⟩ | ⟨b,hb,rfl⟩
 ·exact h.txt a hb
 ·exact h.txt b hb
 ·exact hb
 ·have:=h.cuts a hb;omega
 ·have:=h.cuts b hb;simp only [List.length_append,List.length_cons,List.length_nil];omega
 ·simp
theorem editE_ok {E:Eng} (h:E.Ok) (hR:E.R.Ok) (base group rank:Int) (cs:List Chg):(editE E base group rank cs).1.Ok:=by
 unfold editE
 split
 ·exact h
 split
 ·exact h
 split
 ·exact h
 rename_i h3
 split
 ·exact h
 split
 ·exact h
 rename_i h5
 split
 ·exact h
 have h3':(addR E.R group).2.2=0:=by simpa using h3
 obtain ⟨_,_,_,_,e1,e2⟩:=addR_ok h3' hR
 obtain ⟨f1,f2⟩:=upon_facts h (base:=base) (group:=group) (rank:=rank) (now:=(addR E.R group).2.1) (cs:=cs) (u:=E.R.undone base)
 exact ⟨by simp only;omega,f1,fun a ha=>by simp only [e2];exact f2 a ha⟩
theorem toggleE_ok {E:Eng} (h:E.Ok) (hR:E.R.Ok) (g:Int):(toggleE E g).1.Ok:=by
 unfold toggleE
 split
 ·exact h
 split
 ·exact h
 rename_i h3 _
 have h3':(toggleR E.R g).2.2=0:=by simpa using h3
 obtain ⟨_,_,e1,e2⟩:=toggleR_ok h3' hR
 exact ⟨h.len,h.txt,fun a ha=>by have:=h.cuts a ha;simp only [e2];omega⟩
end Go.Proofs.YtioampofolilnaaGreat.M
namespace Go.Proofs.YtioampofolilnaaGreat.M
open Go Go.Mini
attribute [local congr] go1_congr goM_congr goG_congr goV_congr drawwp_congr Xwp_congr
def AtomLst (x:AVal) (l:List Atom):Prop:=x=eAtoms l∨(x= .nils∧l=[])
theorem AtomLst.sees {x:AVal} {l:List Atom} (h:AtomLst x l) (σ:Heap):Sees σ x σ (eAtoms l):=by
 rcases h with rfl | ⟨rfl,rfl⟩
 ·exact Sees.refl _ _
 ·exact Sees.nils σ 5
theorem AtomLst.cells {x:AVal} {l:List Atom} (h:AtomLst x l):x.cells=[x]∧x.isCell=true∧x.isRaw=false:=by
 rcases h with rfl | ⟨rfl,rfl⟩ <;> exact ⟨rfl,rfl,rfl⟩
theorem SeesL.same (σ:Heap):∀ l:List AVal,SeesL σ l σ l
 | []=>.nil _
 | a::l=>.cons (Sees.refl _ _) (SeesL.same σ l)
theorem AtomLst.call {x:AVal} {l:List Atom} (h:AtomLst x l) {f:FuncId} {args:List AVal} {σ τ:Heap} {v:AVal} (hc:ACall Tryz.prog f (eAtoms l::args) σ v τ):ACall Tryz.prog f (x::args) σ v τ:=by
 rcases h with rfl | ⟨rfl,rfl⟩
 ·exact hc
 ·intro φ w vs hvs hr o a next Q hn
  obtain ⟨φ1,h1,h2,h3⟩:=SeesL.cons (Sees.nils σ 5) (SeesL.same σ args) φ w vs hvs hr
  exact hc φ1 w vs h2 h3 o a next Q fun φ' v' w' g1 g2 g3=>hn φ' v' w' (Phi.le_trans h1 g1) g2 g3
structure EngAt (σ:Heap) (k:Nat) (E:Eng) (x:AVal) (kr:Nat) (fpr:List Nat):Prop where
 blk:σ.get k=some (.cells [x,.ptr (.new kr) 0] none)
 lst:AtomLst x E.l
 revs:IsRevs σ kr E.R fpr
 out:k∉fpr
 low:k<σ.next
 ok:E.Ok
def IsEng (σ:Heap) (k:Nat) (E:Eng) (fp:List Nat):Prop:=∃ x kr fpr,EngAt σ k E x kr fpr∧fp=k::fpr
theorem EngAt.keep {σ τ:Heap} {k:Nat} {E:Eng} {x:AVal} {kr:Nat} {fpr fp':List Nat} (h:EngAt σ k E x kr fpr) (hk:Keep fp' σ τ) (hd:∀ y∈k::fpr,y∉fp'):EngAt τ k E x kr fpr where
 blk:=by rw [hk.2.2.2 k h.low (hd k (by simp))];exact h.blk
 lst:=h.lst
 revs:=h.revs.keep hk fun y hy=>hd y (List.mem_cons_of_mem _ hy)
 out:=h.out
 low:=Nat.lt_of_lt_of_le h.low hk.2.2.1
 ok:=h.ok
theorem IsEng.keep {σ τ:Heap} {k:Nat} {E:Eng} {fp fp':List Nat} (h:IsEng σ k E fp) (hk:Keep fp' σ τ) (hd:∀ y∈fp,y∉fp'):IsEng τ k E fp:=by
 obtain ⟨x,kr,fpr,h,rfl⟩:=h
 exact ⟨x,kr,fpr,h.keep hk hd,rfl⟩
theorem IsEng.low {σ:Heap} {k:Nat} {E:Eng} {fp:List Nat} (h:IsEng σ k E fp):∀ x∈fp,x<σ.next:=by
 obtain ⟨x,kr,fpr,h,rfl⟩:=h
 intro y hy
 rcases List.mem_cons.1 hy with rfl | hy
 ·exact h.low
 ·exact h.revs.low y hy
theorem IsEng.ok {σ:Heap} {k:Nat} {E:Eng} {fp:List Nat} (h:IsEng σ k E fp):E.Ok∧E.R.Ok:=by
 obtain ⟨x,kr,fpr,h,rfl⟩:=h
 exact ⟨h.ok,h.revs.ok⟩
theorem undone_rise {R:Revs} (h:R.Ok) (n:Int):Rise (R.undone n):=by
 unfold Revs.undone
 split
 ·unfold Revs.at
  cases he:R.und[(n - R.floor).toNat]? with
  | none=>exact Rise.nil
  | some s=>exact h.rise s (List.mem_of_getElem? he)
 ·exact Rise.nil
theorem undone_few {R:Revs} (h:R.Ok) (n:Int):(R.undone n).length≤1000000:=by have:=rise_len (undone_rise h n);omega
section
variable {σ:Heap} {k:Nat} {E:Eng} {fp:List Nat} {x:AVal} {kr:Nat} {fpr:List Nat}
theorem EngAt.head (h:EngAt σ k E x kr fpr):ACall Tryz.prog n_engine_Engine_Head [.ptr (.new k) 0] σ (.int .i64 (E.R.head:Nat)) σ:=by
 refine exact_call (spec_of_awp mixed c_engine_Engine_Head (tl rfl) ?_)
 unfold f_engine_Engine_Head
 have hk:=h.blk
 simp +decide only [↓evd,evw,reduceCtorEq,↓reduceIte,hk]
 refine MSpec.of (head_at h.revs) ?_
 simp +decide only [↓evd,evw,reduceCtorEq,↓reduceIte]
theorem EngAt.live (h:EngAt σ k E x kr fpr) (n:Int):ACall Tryz.prog n_engine_Engine_Live [.ptr (.new k) 0,.int .i64 n] σ (.bool (E.R.live n)) σ:=by
 refine exact_call (spec_of_awp mixed c_engine_Engine_Live (tl rfl) ?_)
 unfold f_engine_Engine_Live
 have hk:=h.blk
 simp +decide only [↓evd,evw,reduceCtorEq,↓reduceIte,hk]
 refine MSpec.of (live_at h.revs n) ?_
 simp +decide only [↓evd,evw,reduceCtorEq,↓reduceIte]
theorem EngAt.undoneAt (h:EngAt σ k E x kr fpr) (n:Int):ACall Tryz.prog n_engine_Engine_UndoneAt [.ptr (.new k) 0,.int .i64 n] σ (ints (E.R.undone n)) σ:=by
 refine exact_call (spec_of_awp mixed c_engine_Engine_UndoneAt (tl rfl) ?_)
 unfold f_engine_Engine_UndoneAt
 have hk:=h.blk
 simp +decide only [↓evd,evw,evz,reduceCtorEq,↓reduceIte,hk]
 refine MSpec.of (undone_at h.revs n) ?_
 simp +decide only [↓evd,evw,evz,reduceCtorEq,↓reduceIte]
theorem EngAt.undone (h:EngAt σ k E x kr fpr):ACall Tryz.prog n_engine_Engine_Undone [.ptr (.new k) 0] σ (ints (E.R.undone (E.R.head:Nat))) σ:=by
 refine exact_call (spec_of_awp mixed c_engine_Engine_Undone (tl rfl) ?_)
 unfold f_engine_Engine_Undone
 have hk:=h.blk
 simp +decide only [↓evd,evw,evz,reduceCtorEq]
 with_reducible refine draw_of_grow (fun _=>True) (ms:=[false,false,false,false,false,false,false,false]) (by kernel_rfl) ?_
 simp +decide only [↓evd,evw,↓reduceIte,hk]
 refine MSpec.of h.head ⟨.inr Keeps.rfl,?_⟩
 simp +decide only [↓evd,evw,↓reduceIte]
 refine MSpec.of (undone_at h.revs (E.R.head:Nat)) ⟨.inr Keeps.rfl,?_⟩
 simp +decide only [↓evd,evw,evz,↓reduceIte]
theorem EngAt.groups (h:EngAt σ k E x kr fpr):ACall Tryz.prog n_engine_Engine_Groups [.ptr (.new k) 0] σ (ints E.R.grp) σ:=by
 refine exact_call (spec_of_awp mixed c_engine_Engine_Groups (tl rfl) ?_)
 unfold f_engine_Engine_Groups
 have hk:=h.blk
 simp +decide only [↓evd,evw,evz,reduceCtorEq,↓reduceIte,hk]
 refine MSpec.of (groups_at h.revs) ?_
 simp +decide only [↓evd,evw,evz,reduceCtorEq,↓reduceIte]
theorem EngAt.atoms (h:EngAt σ k E x kr fpr):ACall Tryz.prog n_engine_Engine_Atoms [.ptr (.new k) 0] σ (eAtoms E.l) σ:=by
 refine exact_call (spec_of_awp mixed c_engine_Engine_Atoms (tl rfl) ?_)
 unfold f_engine_Engine_Atoms
 have hk:=h.blk
 have hf:=h.ok.fits h.revs.ok
 have hc:=h.lst.call (copy_call σ E.l hf.1 hf.2.1)
 have hr:=h.lst.cells.2.2
 simp only [eAtoms] at hc
 simp +decide only [↓evd,evw,evz,reduceCtorEq,↓reduceIte,hk]
 refine MSpec.of hc ?_
 simp +decide only [↓evd,evw,reduceCtorEq,↓reduceIte]
def textV (E:Eng) (n:Int):AVal:=if E.R.live n then .tup [.str (E.text n),.int .i64 0] else .tup [.str [],.int .i64 190]
theorem EngAt.text (h:EngAt σ k E x kr fpr) (n:Int):ACall Tryz.prog n_engine_Engine_Text [.ptr (.new k) 0,.int .i64 n] σ (textV E n) σ:=by
 refine exact_call (spec_of_awp mixed c_engine_Engine_Text (tl rfl) ?_)
 unfold f_engine_Engine_Text
 have hk:=h.blk
 have hf:=h.ok.fits h.revs.ok
 have hc:=h.lst.call (text_call σ E.l n (E.R.undone n) (undone_few h.revs.ok n) hf)
 have hr:=h.lst.cells.2.2
 have hu:=h.undoneAt n
 simp only [ints] at hc hu
 simp +decide only [↓evd,evw,reduceCtorEq,↓reduceIte]
 refine MSpec.of (h.live n) ?_
 cases hl:E.R.live n with
 | false=>
  simp +decide only [↓evd,evw,reduceCtorEq,↓reduceIte,textV,hl]
 | true=>
  simp +decide only [↓evd,evw,reduceCtorEq,↓reduceIte]
  with_reducible refine draw_of_grow (fun _=>True) (ms:=[false,false,false,false,false,false,false,false,false,false,false]) (by kernel_rfl) ?_
  simp +decide only [↓evd,evw,↓reduceIte,hk]
  refine MSpec.of hu ⟨.inr Keeps.rfl,?_⟩
  simp +decide only [↓evd,evw,↓reduceIte]
  refine MSpec.of hc ⟨.inr Keeps.rfl,?_⟩
  simp +decide only [↓evd,evw,↓reduceIte,textV,hl,Eng.text]
theorem Eng.live_head {E:Eng} (h:E.R.Ok):E.R.live (E.R.head:Nat)=true:=h.top.2.2
theorem EngAt.fitsC (h:EngAt σ k E x kr fpr):ACall Tryz.prog n_engine_Engine_fits [.ptr (.new k) 0] σ (.bool (decide (((E.text (E.R.head:Nat)).length:Int)≤20000))) σ:=by
 refine exact_call (spec_of_awp mixed c_engine_Engine_fits (tl rfl) ?_)
 unfold f_engine_Engine_fits
 have hl:=Eng.live_head h.revs.ok
 have ht:=h.text (E.R.head:Nat)
 rw [textV,if_pos hl] at ht
 simp +decide only [↓evd,evw,reduceCtorEq,↓reduceIte]
 refine MSpec.of h.head ?_
 simp +decide only [↓evd,evw,↓reduceIte]
 refine MSpec.of ht ?_
 simp +decide only [↓evd,evw,reduceCtorEq,↓reduceIte]
end
theorem enew_at (σ:Heap) (hd:σ.F0.dr=false):MSpec Tryz.prog n_engine_New [] σ fun v τ=>∃ k fp,v= .ptr (.new k) 0∧IsEng τ k Eng.new fp∧(∀ x∈fp,σ.next≤x)∧Keep [] σ τ:=by
 refine spec_of_awp mixed c_engine_New (tl rfl) ?_
 unfold f_engine_New
 simp +decide only [↓evd,evw,reduceCtorEq]
 refine (new_at σ hd).mono ?_
 rintro v τ ⟨rfl,⟨fp,hR,hf⟩,hk⟩
 simp +decide only [↓evd,evw,reduceCtorEq,↓reduceIte]
 have hkn:Keep [] τ (τ.new (.cells [.nils,.ptr (.new (σ.next+4)) 0] none)):=(Keep.refl [] τ).new _
 refine ⟨_,_,rfl,⟨.nils,σ.next+4,fp,⟨by rw [Heap.get_new,if_pos rfl],.inr ⟨rfl,rfl⟩,hR.keep hkn (fun x _=>by simp),fun hm=>by have:=hR.low _ hm;omega,by simp,Eng.new_ok⟩,rfl⟩,?_,hk.trans hkn (fun x hx=>nomatch hx)⟩
 intro y hy
 rcases List.mem_cons.1 hy with rfl | hy
 ·exact hk.2.2.1
 ·exact hf y hy
theorem ecopy_at {σ:Heap} {k:Nat} {E:Eng} {fp:List Nat} (h:IsEng σ k E fp):MSpec Tryz.prog n_engine_Engine_Copy [.ptr (.new k) 0] σ fun v τ=>∃ k' kr' fpr',v= .ptr (.new k') 0∧EngAt τ k' E (eAtoms E.l) kr' fpr'∧(∀ x∈k'::fpr',σ.next≤x)∧Keep [] σ τ:=by
 obtain ⟨x,kr,fpr,h,rfl⟩:=h
 refine spec_of_awp mixed c_engine_Engine_Copy (tl rfl) ?_
 unfold f_engine_Engine_Copy
 have hk:=h.blk
 have hkl:=h.low
 have hf:=h.ok.fits h.revs.ok
 have hc:=h.lst.call (copy_call σ E.l hf.1 hf.2.1)
 have hr:=h.lst.cells.2.2
 simp only [eAtoms] at hc
 simp +decide only [↓evd,evw,evz,reduceCtorEq]
 with_reducible refine draw_of_grow (fun q=>q<σ.next) (ms:=[false,false,false,false,false,false,false,false,false,false,false,false,false]) (by kernel_rfl) ?_
 simp +decide only [↓evd,evw,↓reduceIte,hk,hkl]
 refine MSpec.of hc ⟨.inr Keeps.rfl,?_⟩
 simp +decide only [↓evd,evw,↓reduceIte,hk,hkl]
 refine (copy_at h.revs).mono ?_
 rintro v τ ⟨rfl,⟨fpr',hR,hf'⟩,hkk⟩
 refine ⟨.inr ⟨hkk.1,fun q hq=>hkk.2.2.2 q hq (by simp)⟩,?_⟩
 simp +decide only [↓evd,evw,reduceCtorEq,↓reduceIte]
 have hn:=hkk.2.2.1
 refine ⟨.inr (keeps_new (fun q hq=>by omega) _),?_⟩
 simp +decide only [↓evd,evw,↓reduceIte]
 have hkn:Keep [] τ (τ.new (.cells [eAtoms E.l,.ptr (.new (σ.next+2)) 0] none)):=(Keep.refl [] τ).new _
 refine ⟨_,_,fpr',rfl,⟨by rw [Heap.get_new,if_pos rfl],.inl rfl,hR.keep hkn (fun x _=>by simp),fun hm=>by have:=hR.low _ hm;omega,by simp,h.ok⟩,?_,hkk.trans hkn (fun x hx=>nomatch hx)⟩
 intro y hy
 rcases List.mem_cons.1 hy with rfl | hy
 ·exact hn
 ·exact hf' y hy
section
variable {σ:Heap} {k:Nat} {E:Eng} {fp:List Nat}
theorem IsEng.took {τ:Heap} {kr':Nat} {E':Eng} {x:AVal} {fpr':List Nat} (hk:k<τ.next) (hlow:∀ y∈fpr',y<τ.next) (hx:AtomLst x E'.l) (hR:IsRevs τ kr' E'.R fpr') (hkf:k∉fpr') (hok:E'.Ok):
  IsEng (τ.set k (.cells [x,.ptr (.new kr') 0] none)) k E' (k::fpr'):=by
 have hkn:Keep [k] τ (τ.set k (.cells [x,.ptr (.new kr') 0] none)):=(Keep.refl _ _).set (.inl (by simp)) _
 exact ⟨x,kr',fpr',⟨by rw [Heap.get_set,if_pos rfl],hx,hR.keep hkn (fun y hy hm=>by simp at hm;subst hm;exact hkf hy),hkf,by simpa using hk,hok⟩,rfl⟩
set_option maxHeartbeats 2000000 in
theorem etoggle_at {E':Eng} {n c:Int} (h:IsEng σ k E fp) {g:Int} (e:toggleE E g=(E',n,c)):MSpec Tryz.prog n_engine_Engine_Toggle [.ptr (.new k) 0,.int .i64 g] σ fun v τ=>v= .tup [.int .i64 n,.int .i64 c]∧∃ fp',IsEng τ k E' fp'∧Keep fp σ τ∧Fresh fp σ fp':=by
 refine spec_of_awp mixed c_engine_Engine_Toggle (tl rfl) ?_
 unfold f_engine_Engine_Toggle
 have hlow:=h.low
 have hok:=h.ok
 obtain ⟨x0,kr0,fpr0,h0,rfl⟩:=id h
 simp +decide only [↓evd,evw,reduceCtorEq,↓reduceIte]
 refine (ecopy_at h).mono ?_
 rintro v τ ⟨k',kr',fpr',rfl,hC,hf',hK⟩
 have hb:=hC.blk
 have hE:=h.keep hK (fun y _=>by simp)
 rcases ht:toggleR E.R g with ⟨R',n',c'⟩
 simp +decide only [↓evd,evw,evz,reduceCtorEq,↓reduceIte,hb]
 refine (toggle_at hC.revs ht).mono ?_
 rintro v τ1 ⟨rfl,fpr1,hR1,hK1,hF1⟩
 have hE1:=hE.keep hK1 (fun y hy hm=>by have:=hlow y hy;have:=hf' y (List.mem_cons_of_mem _ hm);omega)
 have hKn:=hK.2.2.1
 have hKn1:=hK1.2.2.1
 have hkk:=hf' k' (by simp)
 have hb1:τ1.get k'=some (.cells [eAtoms E.l,.ptr (.new kr') 0] none):=by rw [hK1.2.2.2 k' hC.low hC.out];exact hb
 have hkp:Keep (k::fpr0) σ τ1:=(hK.mono (fun x hx=>nomatch hx)).trans hK1 (fun x hx=>.inr (hf' x (List.mem_cons_of_mem _ hx)))
 by_cases hc:c'=0
 case neg=>
  have hb:(c' != 0)=true:=by simpa using hc
  have:toggleE E g=(E,0,c'):=by rw [toggleE,ht,if_pos hc]
  rw [this] at e;cases e
  simp +decide only [↓evd,evw,reduceCtorEq,↓reduceIte,hb]
  exact ⟨k::fpr0,hE1,hkp,fun x hx=>.inl hx⟩
 subst hc
 have hcb:((0:Int) != 0)=false:=rfl
 obtain ⟨_,_,t1,t2⟩:=toggleR_ok (R:=E.R) (g:=g) (by rw [ht]) hok.2
 rw [ht] at t2
 simp only at t2
 have hok2:Eng.Ok ⟨E.l,R'⟩:=⟨hok.1.len,hok.1.txt,fun a ha=>by have:=hok.1.cuts a ha;simp only [t2];omega⟩
 have hN:EngAt τ1 k' ⟨E.l,R'⟩ (eAtoms E.l) kr' fpr1:=⟨hb1,.inl rfl,hR1,fun hm=>by
  rcases hF1 k' hm with h1 | h1
  ·exact hC.out h1
  ·have:=hC.low;omega,Nat.lt_of_lt_of_le hC.low hKn1,hok2⟩
 have hfit:=hN.fitsC
 have hf1:∀ y∈fpr1,σ.next≤y:=fun y hy=>by
  rcases hF1 y hy with h1 | h1
  ·exact hf' y (List.mem_cons_of_mem _ h1)
  ·omega
 simp +decide only [↓evd,evw,reduceCtorEq,↓reduceIte,hcb]
 refine MSpec.of hfit ?_
 by_cases hl:((Eng.text ⟨E.l,R'⟩ (R'.head:Nat)).length:Int)≤20000
 ·have:toggleE E g=(⟨E.l,R'⟩,n',0):=by rw [toggleE,ht,if_neg (by simp),if_neg (by simp only;omega)]
  rw [this] at e;cases e
  have hk0:=h0.low
  have hle:k<τ1.next:=by omega
  obtain ⟨y,kry,fpry,hy,hye⟩:=id hE1
  have hby:=hy.blk
  simp +decide only [↓evd,evw,evz,reduceCtorEq,↓reduceIte,decide_eq_true hl,hb1,hby]
  refine ⟨k::fpr1,IsEng.took hle hR1.low (.inl rfl) hR1 (fun hm=>by have:=hf1 k hm;omega) hok2,hkp.set (.inl (by simp)) _,fun x hx=>?_⟩
  rcases List.mem_cons.1 hx with rfl | hx
  ·exact .inl (by simp)
  ·exact .inr (hf1 x hx)
 ·have:toggleE E g=(E,0,13):=by rw [toggleE,ht,if_neg (by simp),if_pos (by simp only;omega)]
  rw [this] at e;cases e
  simp +decide only [↓evd,evw,reduceCtorEq,↓reduceIte,decide_eq_false hl]
  exact ⟨k::fpr0,hE1,hkp,fun x hx=>.inl hx⟩
end
section
variable {σ:Heap} {k:Nat} {E:Eng} {fp:List Nat}
theorem upon_few {l:List Atom} (hl:l.length≤4000) (rev:Int) (u:List Int) {cs:List Chg} (hcl:cs.length≤1000) (hc:∀ c∈cs,c.text.length≤1000000) (rev' group rank:Int):(upon l rev u cs rev' group rank).length≤100000000000:=by
 unfold upon
 split
 case isFalse=>omega
 rename_i h0
 have hml:(marked (cuts l rev u cs) ⟨rev',group⟩ l 0).length≤4000:=by rw [marked_len];exact hl
 generalize marked (cuts l rev u cs) ⟨rev',group⟩ l 0=mk at hml
 have key:∀ (r:List (Nat × List UInt8)) (at':Nat),(∀ kt∈r,kt.2.length≤1000000)→(merged (fun t=>newAtoms rev' group rank (ptsOf t)) mk r at').length≤4000+r.length * 1004000:=by
  intro r
  induction r with
  | nil=>intro at' _;simp only [merged,List.length_drop];omega
  | cons kt r ih=>
   intro at' hk
   obtain ⟨q,t⟩:=kt
   have h1:=ih q fun z hz=>hk z (List.mem_cons_of_mem _ hz)
   have h2:=hk (q,t) (by simp)
   have h3:(newAtoms rev' group rank (ptsOf t)).length≤t.length:=by
    simp only [newAtoms,List.length_map,ptsOf]
    cases hp:pts t with
    | none=>simp
    | some ps=>exact pts_len _ t ps (Nat.le_refl _) hp
   simp only [merged_cons,List.length_append,List.length_drop,List.length_take,List.length_cons]
   simp only at h2
   omega
 have h2:=key ((spotsN l rev u cs rank).zip (cs.map Chg.text)) 0 (by
  rintro ⟨q,t⟩ hz
  have:=(List.of_mem_zip hz).2
  rw [List.mem_map] at this
  obtain ⟨c,hcm,rfl⟩:=this
  exact hc c hcm)
 have h3:((spotsN l rev u cs rank).zip (cs.map Chg.text)).length≤1000:=by rw [List.length_zip];simp;omega
 omega
set_option maxHeartbeats 4000000 in
theorem eedit_at {E':Eng} {n c:Int} (h:IsEng σ k E fp) {base group rank:Int} {cs:List Chg} (hcl:cs.length≤1000) (hct:∀ c∈cs,c.text.length≤1000000) (e:editE E base group rank cs=(E',n,c)):
  MSpec Tryz.prog n_engine_Engine_Edit [.ptr (.new k) 0,.int .i64 base,.int .i64 group,.int .i64 rank,eChgs cs] σ fun v τ=>v= .tup [.int .i64 n,.int .i64 c]∧∃ fp',IsEng τ k E' fp'∧Keep fp σ τ∧Fresh fp σ fp':=by
 refine spec_of_awp mixed c_engine_Engine_Edit (tl rfl) ?_
 unfold f_engine_Engine_Edit
 have hlow:=h.low
 have hok:=h.ok
 obtain ⟨x0,kr0,fpr0,h0,rfl⟩:=id h
 have hb0:=h0.blk
 have hx0:=h0.lst.cells.2.2
 have htx:=h0.text base
 have hsame:∃ fp',IsEng σ k E fp'∧Keep (k::fpr0) σ σ∧Fresh (k::fpr0) σ fp':=⟨_,h,Keep.refl _ _,fun x hx=>.inl hx⟩
 have hroom:maxRoom=68719476736:=rfl
 cases hl:E.R.live base with
 | false=>
  have:editE E base group rank cs=(E,0,190):=by rw [editE,if_pos hl]
  rw [this] at e;cases e
  rw [textV,hl,if_neg (by simp)] at htx
  have hb:((190:Int) != 0)=true:=rfl
  simp +decide only [↓evd,evw,evz,reduceCtorEq,↓reduceIte]
  refine MSpec.of htx ?_
  simp +decide only [↓evd,evw,reduceCtorEq,↓reduceIte,hb]
  exact hsame
 | true=>
 rw [textV,if_pos hl] at htx
 have hlt:=atomsText_le base (E.R.undone base) hok.1.txt
 have hl4:=hok.1.len
 have hck:=check_call σ (E.text base) cs (by unfold Eng.text;omega) (by omega) (fun c hc=>by have:=hct c hc;unfold ChgFits;omega)
 have hcb:((0:Int) != 0)=false:=rfl
 simp +decide only [↓evd,evw,evz,reduceCtorEq,↓reduceIte]
 refine MSpec.of htx ?_
 simp +decide only [↓evd,evw,reduceCtorEq,↓reduceIte,hcb]
 simp only [eChgs] at hck
 refine MSpec.of hck ?_
 by_cases hc0:check (E.text base) cs=0
 case neg=>
  have:editE E base group rank cs=(E,0,check (E.text base) cs):=by rw [editE,if_neg (by simp [hl]),if_pos hc0]
  rw [this] at e;cases e
  have hb:(check (E.text base) cs != 0)=true:=by simpa using hc0
  simp +decide only [↓evd,evw,reduceCtorEq,↓reduceIte,hb]
  exact hsame
 rw [hc0]
 simp +decide only [↓evd,evw,reduceCtorEq,↓reduceIte,hcb]
 refine (ecopy_at h).mono ?_
 rintro v τ ⟨k',kr',fpr',rfl,hC,hf',hK⟩
 have hb:=hC.blk
 have hE:=h.keep hK (fun y _=>by simp)
 rcases ht:addR E.R group with ⟨R',n',c'⟩
 simp +decide only [↓evd,evw,evz,reduceCtorEq,↓reduceIte,hb]
 refine (add_at hC.revs ht).mono ?_
 rintro v τ1 ⟨rfl,fpr1,hR1,hK1,hF1⟩
 have hdis:∀ y∈k::fpr0,y∉fpr':=fun y hy hm=>by have:=hlow y hy;have:=hf' y (List.mem_cons_of_mem _ hm);omega
 have hE1:=hE.keep hK1 hdis
 have hA1:=(h0.keep hK (fun y _=>by simp)).keep hK1 hdis
 have hKn:=hK.2.2.1
 have hKn1:=hK1.2.2.1
 have hkk:=hf' k' (by simp)
 have hb1:τ1.get k'=some (.cells [eAtoms E.l,.ptr (.new kr') 0] none):=by rw [hK1.2.2.2 k' hC.low hC.out];exact hb
 have hkp:Keep (k::fpr0) σ τ1:=(hK.mono (fun x hx=>nomatch hx)).trans hK1 (fun x hx=>.inr (hf' x (List.mem_cons_of_mem _ hx)))
 have hfin:∃ fp',IsEng τ1 k E fp'∧Keep (k::fpr0) σ τ1∧Fresh (k::fpr0) σ fp':=⟨k::fpr0,hE1,hkp,fun x hx=>.inl hx⟩
 have hne:editE E base group rank cs=if c'≠0 then (E,0,c') else if rank<0∨1000000<rank then (E,0,10) else
   if 4000<(upon E.l base (E.R.undone base) cs n' group rank).length then (E,0,70) else
   if 20000<(Eng.text ⟨upon E.l base (E.R.undone base) cs n' group rank,R'⟩ R'.head).length then (E,0,13) else (⟨upon E.l base (E.R.undone base) cs n' group rank,R'⟩,n',0):=by
  rw [editE,if_neg (by simp [hl]),if_neg (by simp [hc0]),ht]
 by_cases hc:c'=0
 case neg=>
  have hb:(c' != 0)=true:=by simpa using hc
  rw [if_pos hc] at hne
  rw [hne] at e;cases e
  simp +decide only [↓evd,evw,reduceCtorEq,↓reduceIte,hb]
  exact hfin
 subst hc
 rw [if_neg (by simp)] at hne
 by_cases hr:rank<0∨1000000<rank
 ·rw [if_pos hr] at hne
  rw [hne] at e;cases e
  by_cases hr1:rank<0
  ·simp +decide only [↓evd,evw,reduceCtorEq,↓reduceIte,hcb,hr1]
   exact hfin
  ·have hr2:=hr.resolve_left hr1
   simp +decide only [↓evd,evw,reduceCtorEq,↓reduceIte,hcb,hr1,hr2]
   exact hfin
 rw [if_neg hr] at hne
 have hr1:¬rank<0:=fun h=>hr (.inl h)
 have hr2:¬1000000<rank:=fun h=>hr (.inr h)
 obtain ⟨_,_,_,_,t1,t2⟩:=addR_ok (R:=E.R) (g:=group) (by rw [ht]) hok.2
 rw [ht] at t2
 simp only at t2
 have hfit0:=hok.1.fits hok.2
 have hup:=hA1.lst.call (upon_call τ1 E.l base (E.R.undone base) cs n' group rank (undone_few hok.2 base) hfit0 (by omega) hct (fun a ha=>by have:=hok.1.cuts a ha;have:=head_le hok.2;omega) (by omega))
 have hun:=hA1.undoneAt base
 obtain ⟨uf1,uf2⟩:=upon_facts hok.1 (base:=base) (group:=group) (rank:=rank) (now:=n') (cs:=cs) (u:=E.R.undone base)
 have hb01:=hA1.blk
 have hlen:=upon_few hok.1.len base (E.R.undone base) hcl hct n' group rank
 generalize upon E.l base (E.R.undone base) cs n' group rank=l' at hup hne uf1 uf2 hlen
 simp only [ints,eChgs,eAtoms] at hup
 simp only [ints] at hun
 simp only [eAtoms] at hb1
 simp +decide only [↓evd,evw,reduceCtorEq,↓reduceIte,hcb,hr1,hr2]
 with_reducible refine draw_of_grow (fun _=>True) (ms:=[false,false,false,false,false,false,false,false,false,false,false,false,false,false,false,false,true]) (by kernel_rfl) ?_
 simp +decide only [↓evd,evw,↓reduceIte,hb01]
 refine MSpec.of hun ⟨.inr Keeps.rfl,?_⟩
 simp +decide only [↓evd,evw,↓reduceIte]
 refine MSpec.of hup ⟨.inr Keeps.rfl,?_⟩
 simp +decide only [↓evd,evw,evz,reduceCtorEq,↓reduceIte,hb1]
 have hK2:Keep [k'] τ1 (τ1.set k' (.cells [.fsl 5 (l'.map eAtom),.ptr (.new kr') 0] none)):=(Keep.refl _ _).set (.inl (by simp)) _
 have hkf:k'∉fpr1:=fun hm=>by
  rcases hF1 k' hm with h1 | h1
  ·exact hC.out h1
  ·have:=hC.low;omega
 have hkp2:Keep (k::fpr0) σ (τ1.set k' (.cells [.fsl 5 (l'.map eAtom),.ptr (.new kr') 0] none)):=hkp.set (.inr hkk) _
 have hE2:=hE1.keep hK2 (fun y hy hm=>by simp at hm;have:=hlow y hy;omega)
 have hfin2:∃ fp',IsEng (τ1.set k' (.cells [.fsl 5 (l'.map eAtom),.ptr (.new kr') 0] none)) k E fp'∧Keep (k::fpr0) σ (τ1.set k' (.cells [.fsl 5 (l'.map eAtom),.ptr (.new kr') 0] none))∧Fresh (k::fpr0) σ fp':=⟨k::fpr0,hE2,hkp2,fun x hx=>.inl hx⟩
 by_cases hm:4000<l'.length
 ·have hm':(4000:Int)<(l'.length:Int):=by omega
  rw [if_pos hm] at hne
  rw [hne] at e;cases e
  simp +decide only [↓evd,evw,reduceCtorEq,↓reduceIte,hm']
  exact hfin2
 have hm':¬(4000:Int)<(l'.length:Int):=by omega
 rw [if_neg hm] at hne
 have hR2:=hR1.keep hK2 (fun y hy hm=>by simp at hm;subst hm;exact hkf hy)
 have hok2:Eng.Ok ⟨l',R'⟩:=⟨by simp only;omega,uf1,fun a ha=>by have:=uf2 a ha;simp only [t2];omega⟩
 have hN:EngAt (τ1.set k' (.cells [.fsl 5 (l'.map eAtom),.ptr (.new kr') 0] none)) k' ⟨l',R'⟩ (eAtoms l') kr' fpr1:=⟨by rw [Heap.get_set,if_pos rfl];rfl,.inl rfl,hR2,hkf,by have:=hC.low;simp only [Heap.set_next];omega,hok2⟩
 have hfit:=hN.fitsC
 have hf1:∀ y∈fpr1,σ.next≤y:=fun y hy=>by
  rcases hF1 y hy with h1 | h1
  ·exact hf' y (List.mem_cons_of_mem _ h1)
  ·omega
 simp +decide only [↓evd,evw,reduceCtorEq,↓reduceIte,hm']
 refine MSpec.of hfit ?_
 by_cases hl:((Eng.text ⟨l',R'⟩ (R'.head:Nat)).length:Int)≤20000
 ·rw [if_neg (by omega)] at hne
  rw [hne] at e;cases e
  have hk0:=h0.low
  have hle:k<τ1.next:=by omega
  have hne2:(k'=k)=False:=eq_false (by omega)
  simp +decide only [↓evd,evw,reduceCtorEq,↓reduceIte,decide_eq_true hl,hb01,hne2]
  refine ⟨k::fpr1,IsEng.took (by simpa using hle) hR2.low (.inl rfl) hR2 (fun hm=>by have:=hf1 k hm;omega) hok2,hkp2.set (.inl (by simp)) _,fun x hx=>?_⟩
  rcases List.mem_cons.1 hx with rfl | hx
  ·exact .inl (by simp)
  ·exact .inr (hf1 x hx)
 ·rw [if_pos (by omega)] at hne
  rw [hne] at e;cases e
  simp +decide only [↓evd,evw,reduceCtorEq,↓reduceIte,decide_eq_false hl]
  exact hfin2
end
theorem chgs_row (cs:List Chg):∀ z∈cs.map eChg,z.cells.length=3:=by
 intro z hz;rw [List.mem_map] at hz;obtain ⟨c,_,rfl⟩:=hz;rfl
theorem sees_chgs {σ:Heap} {K n:Nat} {cs:List Chg} (hn:n=cs.length) (hg:σ.get K=some (.cells ((cs.map eChg).flatMap AVal.cells) none)):Sees σ (.slc (.new K) 0 n (.ex n)) (σ.set K .dead) (eChgs cs):=by
 refine Sees.own hg (by simp [hn]) (chgs_row cs) ?_ (fun c hc=>by cases hc;exact Nat.le_refl _)
 have:=flat_len (chgs_row cs)
 rw [List.length_map] at this
 rw [List.drop_zero,List.take_of_length_le (by omega)]
section
variable {σ:Heap} {k:Nat} {E:Eng} {fp:List Nat}
end
theorem etext_at {σ:Heap} {k:Nat} {E:Eng} {fp:List Nat} (h:IsEng σ k E fp) (n:Int):ACall Tryz.prog n_engine_Engine_Text [.ptr (.new k) 0,.int .i64 n] σ (textV E n) σ:=by obtain ⟨_,_,_,h,_⟩:=h;exact h.text n
theorem ehead_at {σ:Heap} {k:Nat} {E:Eng} {fp:List Nat} (h:IsEng σ k E fp):ACall Tryz.prog n_engine_Engine_Head [.ptr (.new k) 0] σ (.int .i64 (E.R.head:Nat)) σ:=by obtain ⟨_,_,_,h,_⟩:=h;exact h.head
theorem eatoms_at {σ:Heap} {k:Nat} {E:Eng} {fp:List Nat} (h:IsEng σ k E fp):ACall Tryz.prog n_engine_Engine_Atoms [.ptr (.new k) 0] σ (eAtoms E.l) σ:=by obtain ⟨_,_,_,h,_⟩:=h;exact h.atoms
theorem elive_at {σ:Heap} {k:Nat} {E:Eng} {fp:List Nat} (h:IsEng σ k E fp) (n:Int):ACall Tryz.prog n_engine_Engine_Live [.ptr (.new k) 0,.int .i64 n] σ (.bool (E.R.live n)) σ:=by obtain ⟨_,_,_,h,_⟩:=h;exact h.live n
theorem aStr_self (s:List UInt8):aStr .eql s s=some (.bool true):=by simp [aStr]
def at1 (b:UInt8) (cs:List Cut):Atom:=⟨[b],1,1,0,cs⟩
def kE1:Eng:=⟨[at1 104 [],at1 101 [],at1 108 [],at1 108 [],at1 111 []],⟨[[],[]],0,[1],[]⟩⟩
def kE2:Eng:=⟨[⟨[106],2,2,0,[]⟩,at1 104 [⟨2,2⟩],at1 101 [],at1 108 [],at1 108 [],at1 111 []],⟨[[],[],[]],0,[1,2],[]⟩⟩
def kE3:Eng:=⟨[⟨[106],2,2,0,[]⟩,at1 104 [⟨2,2⟩],at1 101 [],at1 108 [],at1 108 [],at1 111 [],⟨[33],3,3,0,[]⟩],⟨[[],[],[],[]],0,[1,2,3],[]⟩⟩
def kE4:Eng:=⟨kE3.l,⟨[[],[],[],[],[2]],0,[1,2,3],[]⟩⟩
theorem k1:editE Eng.new 0 1 0 [⟨0,0,[104,101,108,108,111]⟩]=(kE1,1,0):=by kernel_rfl
theorem k2:editE kE1 1 2 0 [⟨0,1,[106]⟩]=(kE2,2,0):=by kernel_rfl
theorem k3:editE kE2 1 3 0 [⟨5,5,[33]⟩]=(kE3,3,0):=by kernel_rfl
theorem k4:toggleE kE3 2=(kE4,4,0):=by kernel_rfl
theorem k5:editE kE4 9 1 0 []=(kE4,0,190):=by kernel_rfl
end Go.Proofs.YtioampofolilnaaGreat.M
namespace Go.Proofs.YtioampofolilnaaGreat.M
open Go Go.Mini
theorem atomsText_append (rev:Int) (u:List Int):∀ l m:List Atom,atomsText rev u (l ++ m)=atomsText rev u l ++ atomsText rev u m
 | [],m=>rfl
 | a::l,m=>by simp only [List.cons_append,atomsText,atomsText_append rev u l m,List.append_assoc]
theorem edit_fail {E E':Eng} {base group rank n c:Int} {cs:List Chg} (e:editE E base group rank cs=(E',n,c)) (hc:c≠0):E'=E∧n=0:=by
 unfold editE at e
 repeat' split at e
 all_goals
  simp only [Prod.mk.injEq] at e
  first | exact ⟨e.1.symm,e.2.1.symm⟩ | exact absurd e.2.2.symm hc
theorem toggle_fail {E E':Eng} {g n c:Int} (e:toggleE E g=(E',n,c)) (hc:c≠0):E'=E∧n=0:=by
 unfold toggleE at e
 repeat' split at e
 all_goals
  simp only [Prod.mk.injEq] at e
  first | exact ⟨e.1.symm,e.2.1.symm⟩ | exact absurd e.2.2.symm hc
end Go.Proofs.YtioampofolilnaaGreat.M
namespace Go.Proofs.YtioampofolilnaaGreat.M
open Go Go.Mini
attribute [local congr] go1_congr goM_congr goG_congr goV_congr drawwp_congr Xwp_congr
def cv:List Cut→List AVal
 | []=>[]
 | c::l=>.int .i64 c.rev::.int .i64 c.group::cv l
theorem cv_flat:∀ l:List Cut,(l.map eCut).flatMap AVal.cells=cv l
 | []=>rfl
 | c::l=>by simp only [List.map_cons,List.flatMap_cons,cv_flat l,cv];rfl
theorem cv_len:∀ l:List Cut,(cv l).length=l.length * 2
 | []=>rfl
 | c::l=>by simp only [cv,List.length_cons,cv_len l];omega
theorem cv_append:∀ l m:List Cut,cv (l ++ m)=cv l ++ cv m
 | [],m=>rfl
 | c::l,m=>by simp only [List.cons_append,cv,cv_append l m]
theorem cv_get:∀ {l:List Cut} {i:Nat} {w:List AVal} (h:i<l.length),(cv l ++ w)[i * 2]? =some (.int .i64 l[i].rev)∧(cv l ++ w)[i * 2+1]? =some (.int .i64 l[i].group)
 | c::l,0,w,h=>⟨rfl,rfl⟩
 | c::l,i+1,w,h=>by
  have:=cv_get (l:=l) (i:=i) (w:=w) (by simpa using h)
  rw [show (i+1) * 2=i * 2+1+1 by omega,show i * 2+1+1+1=i * 2+1+1+1 from rfl]
  simp only [cv,List.cons_append,List.getElem?_cons_succ,List.getElem_cons_succ]
  exact this
theorem cv_set:∀ {l:List Cut} {i:Nat} {w:List AVal} (x:Cut) (h:i<l.length),(cv l ++ w).take (i * 2) ++ [AVal.int .i64 x.rev,AVal.int .i64 x.group] ++ (cv l ++ w).drop (i * 2+2)=cv (l.set i x) ++ w
 | c::l,0,w,x,h=>rfl
 | c::l,i+1,w,x,h=>by
  have:=cv_set (l:=l) (i:=i) (w:=w) x (by simpa using h)
  rw [show (i+1) * 2=i * 2+1+1 by omega,show i * 2+1+1+2=i * 2+2+1+1 by omega]
  simp only [cv,List.cons_append,List.take_succ_cons,List.drop_succ_cons,List.set_cons_succ]
  rw [this]
def firstC (p:Cut→Bool):List Cut→Nat→Int
 | x::l,i=>if p x then (i:Int) else firstC p l (i+1)
 | [],_=>-1
theorem firstC_none (p:Cut→Bool):∀ (l:List Cut) (i:Nat),firstC p l i= -1→l.filter (fun x=>!p x)=l
 | [],i,_=>rfl
 | x::l,i,h=>by
  rw [firstC] at h
  split at h
  ·omega
  ·rename_i hp
   rw [List.filter_cons,if_pos (by simpa using hp),firstC_none p l _ h]
theorem firstC_some (p:Cut→Bool):∀ (l:List Cut) (i:Nat),firstC p l i≠ -1→∃ j:Nat,firstC p l i=((i+j:Nat):Int)∧j<l.length∧(l.take (j+1)).filter (fun x=>!p x)=l.take j
 | [],i,h=>absurd rfl h
 | x::l,i,h=>by
  rw [firstC] at h ⊢
  split
  ·rename_i hp
   refine ⟨0,rfl,by simp,?_⟩
   simp [hp]
  ·rename_i hp
   rw [if_neg hp] at h
   obtain ⟨j,h1,h2,h3⟩:=firstC_some p l (i+1) h
   refine ⟨j+1,by rw [h1];omega,by simp;omega,?_⟩
   rw [List.take_succ_cons,List.filter_cons,if_pos (by simpa using hp),h3,List.take_succ_cons]
theorem indexC_call (σ:Heap) (K:Nat) (cap:Cap) (l:List Cut) (w:List AVal) (opn:Option TypeId) (g:FuncId) (caps:List AVal) (p:Cut→Bool) (hl:l.length≤1000000) (hg:σ.get K=some (.cells (cv l ++ w) opn)) (hp:∀ x∈l,ACall Tryz.prog g (eCut x::caps) σ (.bool (p x)) σ):
  ACall Tryz.prog n_slices_IndexFunc_api_Cut_api_Cut [.slc (.new K) 0 l.length cap,.fn g caps] σ (.int .i64 (firstC p l 0)) σ:=by
 refine exact_call (spec_of_awp mixed c_slices_IndexFunc_api_Cut_api_Cut (tl rfl) ?_)
 unfold f_slices_IndexFunc_api_Cut_api_Cut
 simp +decide only [↓evd,evw,evz,reduceCtorEq,↓reduceIte]
 refine awp_loop (fun m fr τ=>∃ i,m+i=l.length∧fr.get 0= .slc (.new K) 0 l.length cap∧fr.get 1= .fn g caps∧fr.get 7= .int .i64 (l.length:Nat)∧fr.get 8= .int .i64 (i:Nat)∧firstC p (l.drop i) i=firstC p l 0∧τ=σ) ?_ (m:=l.length) ?_
 ·rintro m fr τ ⟨i,hi,e0,e1,e7,e8,hf,rfl⟩
  by_cases hlt:i<l.length
  ·have hlt':(i:Int)<(l.length:Int):=by omega
   have hs:=wrap_succ (i:=i) (by omega)
   obtain ⟨hg0,hg1⟩:=cv_get (w:=w) hlt
   have hpx:=hp _ (List.getElem_mem hlt)
   rw [List.drop_eq_getElem_cons hlt,firstC] at hf
   generalize l[i]=x at hg0 hg1 hpx hf
   simp only [eCut] at hpx
   simp +decide only [↓evd,evw,reduceCtorEq,↓reduceIte,e0,e1,e7,e8,hlt',hg,hg0,hg1]
   refine MSpec.of hpx ?_
   cases hpb:p x with
   | true=>
    rw [hpb,if_pos rfl] at hf
    simp +decide only [↓evd,evw,reduceCtorEq,↓reduceIte,hf]
   | false=>
    rw [hpb,if_neg (by simp)] at hf
    simp +decide only [↓evd,evw,reduceCtorEq,↓reduceIte,e0,e1,e7,e8,hs]
    exact ⟨m - 1,by omega,i+1,by omega,rfl,hf⟩
  ·have hlt':¬(i:Int)<(l.length:Int):=by omega
   rw [List.drop_eq_nil_of_le (by omega),firstC] at hf
   simp +decide only [↓evd,evw,reduceCtorEq,↓reduceIte,e7,e8,hlt',hf]
 ·refine ⟨0,by omega,?_⟩
  simp +decide only [evw,↓reduceIte]
theorem takeC_filter {l:List Cut} {i:Nat} (p:Cut→Bool) (h:i<l.length):(l.take (i+1)).filter p=(l.take i).filter p ++ (if p l[i] then [l[i]] else []):=by
 rw [List.take_succ_eq_append_getElem h,List.filter_append]
 congr 1
 simp only [List.filter_cons,List.filter_nil]
theorem row_parts {K n j k:Nat} {cap:Cap} (hc:(cap= .gr k)∨∃ c,cap= .ex c∧n≤c) (hj:j<n):
  (∃ cap',aSlc k (.slc (.new K) 0 n cap) (some (.int .i64 (j:Nat))) none none=some (.slc (.new K) (j * k) (n - j) cap'))∧aSlc k (.slc (.new K) 0 n cap) none (some (.int .i64 (j:Nat))) none=some (.slc (.new K) 0 j cap):=by
 have b1:aBound (some (.int .i64 (j:Nat))) 0 n=some j:=by simp only [aBound];rw [if_pos (by simp;omega)];rfl
 have b2:aBound none n n=some n:=rfl
 have b3:aBound none 0 j=some 0:=rfl
 have b4:aBound (some (.int .i64 (j:Nat))) n n=some j:=by simp only [aBound];rw [if_pos (by simp;omega)];rfl
 rcases hc with rfl | ⟨c,rfl,hc⟩
 ·constructor
  ·refine ⟨.gr k,?_⟩
   simp only [aSlc,b1,b2,ne_eq,not_true_eq_false,if_false,Nat.zero_add]
   by_cases h0:j=0
   ·subst h0;simp
   ·rw [if_neg h0,if_pos hj]
  ·simp only [aSlc,b4,b3,ne_eq,not_true_eq_false,if_false,if_true]
 ·have b5:aBound none c c=some c:=rfl
  have b6:aBound none n c=some n:=rfl
  have b7:aBound (some (.int .i64 (j:Nat))) n c=some j:=by simp only [aBound];rw [if_pos (by simp;omega)];rfl
  constructor
  ·refine ⟨.ex (c - j),?_⟩
   simp only [aSlc,b5,b6,b1,Option.isSome_none,Bool.false_and,Bool.false_eq_true,if_false,Nat.zero_add,if_neg (show ¬c=j by omega)]
  ·simp only [aSlc,b5,b7,b3,Option.isSome_none,Bool.false_and,Bool.false_eq_true,if_false,Nat.zero_mul,Nat.add_zero,if_neg (show ¬c=0 by omega),Nat.sub_zero]
set_option maxHeartbeats 4000000 in
theorem deleteC_spec (σ:Heap) (K:Nat) (cap:Cap) (l:List Cut) (w:List AVal) (opn:Option TypeId) (g:FuncId) (caps:List AVal) (p:Cut→Bool) (hl:l.length≤1000000) (hcap:(cap= .gr 2)∨∃ c,cap= .ex c∧l.length≤c) (hg:σ.get K=some (.cells (cv l ++ w) opn))
  (hp:∀ τ,Keep [K] σ τ→∀ x∈l,ACall Tryz.prog g (eCut x::caps) τ (.bool (p x)) τ) (hKn:K<σ.next):
  MSpec Tryz.prog n_slices_DeleteFunc_api_Cut_api_Cut [.slc (.new K) 0 l.length cap,.fn g caps] σ fun v τ=>v= .slc (.new K) 0 (l.filter (fun x=>!p x)).length cap∧Keep [K] σ τ∧∃ w',τ.get K=some (.cells (cv (l.filter (fun x=>!p x)) ++ w') opn):=by
 refine spec_of_awp mixed c_slices_DeleteFunc_api_Cut_api_Cut (tl rfl) ?_
 unfold f_slices_DeleteFunc_api_Cut_api_Cut
 have hidx:=indexC_call σ K cap l w opn g caps p hl hg (hp σ (Keep.refl _ _))
 simp +decide only [↓evd,evw,reduceCtorEq,↓reduceIte]
 refine MSpec.of hidx ?_
 by_cases h0:firstC p l 0= -1
 ·have hb:(firstC p l 0== -1)=true:=by simpa using h0
  have hf:=firstC_none p l 0 h0
  simp +decide only [↓evd,evw,reduceCtorEq,↓reduceIte,hb]
  rw [hf]
  exact ⟨rfl,Keep.refl _ _,w,hg⟩
 have hb:(firstC p l 0== -1)=false:=by simpa using h0
 obtain ⟨j0,h1,h2,h3⟩:=firstC_some p l 0 h0
 rw [Nat.zero_add] at h1
 rw [h1] at hb
 have hw0:=wrap_succ (i:=j0) (by omega)
 rw [h1]
 simp +decide only [↓evd,evw,reduceCtorEq,↓reduceIte,hb,hw0]
 refine awp_loop (fun m fr τ=>∃ j kept mid,m+j=l.length∧j≤l.length∧fr.get 0= .slc (.new K) 0 l.length cap∧fr.get 1= .fn g caps∧fr.get 5= .int .i64 (kept.length:Nat)∧fr.get 6= .int .i64 (j:Nat)∧kept=(l.take j).filter (fun x=>!p x)∧mid≠[]∧(kept ++ mid).length=j∧τ.get K=some (.cells (cv (kept ++ mid ++ l.drop j) ++ w) opn)∧Keep [K] σ τ) ?_ (m:=l.length - (j0+1)) ?_
 ·rintro m fr τ ⟨j,kept,mid,hm,hjl,e0,e1,e5,e6,hk,hmid,hkm,hcs,hK⟩
  by_cases hlt:j<l.length
  ·have hlt':(j:Int)<(l.length:Int):=by omega
   have hs:=wrap_succ (i:=j) (by omega)
   have hlen:(kept ++ mid ++ l.drop j).length=l.length:=by rw [List.length_append,hkm,List.length_drop];omega
   have hgx:(kept ++ mid ++ l.drop j)[j]'(by omega)=l[j]:=by
    rw [List.getElem_append_right (by omega)]
    simp only [hkm,Nat.sub_self,List.getElem_drop,Nat.add_zero]
   obtain ⟨hg0,hg1⟩:=cv_get (w:=w) (show j<(kept ++ mid ++ l.drop j).length by omega)
   rw [hgx] at hg0 hg1
   have hmem:=List.getElem_mem hlt
   have htk:(l.take (j+1)).filter (fun x=>!p x)=kept ++ (if !p l[j] then [l[j]] else []):=by rw [takeC_filter _ hlt,← hk]
   have hdr:=List.drop_eq_getElem_cons hlt
   have hKlt:K<τ.next:=by have:=hK.2.2.1;omega
   have hk1:∀ x:Cut,Keep [K] σ ((τ.new (.cells [.int .i64 0,.int .i64 0] none)).set τ.next (.cells [.int .i64 x.rev,.int .i64 x.group] none)):=fun x=>by
    refine ⟨hK.1,hK.2.1,Nat.le_succ_of_le hK.2.2.1,fun q hq hn=>?_⟩
    have:=hK.2.2.1
    rw [Heap.get_set,if_neg (by omega),Heap.get_new,if_neg (by omega)]
    exact hK.2.2.2 q hq hn
   have hpx:=hp _ (hk1 l[j]) _ hmem
   generalize l[j]=x at hg0 hg1 hpx htk hdr hmem
   simp only [eCut] at hpx
   have hKne:(τ.next=K)=False:=eq_false (by omega)
   have hKne2:(K=τ.next)=False:=eq_false (by omega)
   simp +decide only [↓evd,evw,evz,reduceCtorEq,↓reduceIte,e0,e1,e6,hlt',hcs,hg0,hg1]
   refine MSpec.of hpx ?_
   cases hpb:p x with
   | true=>
    rw [hpb] at htk
    simp only [Bool.not_true,Bool.false_eq_true,if_false,List.append_nil] at htk
    simp +decide only [↓evd,evw,reduceCtorEq,↓reduceIte,e0,e1,e5,e6,hs]
    refine ⟨m - 1,by omega,j+1,kept,mid ++ [x],by omega,by omega,rfl,rfl,htk.symm,by simp,by simp at hkm ⊢;omega,?_,hk1 x⟩
    rw [if_neg (by omega),if_neg (by omega),hcs,hdr];simp
   | false=>
    rw [hpb] at htk
    simp only [Bool.not_false,if_true] at htk
    obtain ⟨y,mid',rfl⟩:∃ y mid',mid=y::mid':=by
     cases mid with
     | nil=>exact absurd rfl hmid
     | cons y mid'=>exact ⟨y,mid',rfl⟩
    have hkl:kept.length<l.length:=by simp at hkm;omega
    have hkl':(kept.length:Int)<(l.length:Int):=by omega
    have hs2:=wrap_succ (i:=kept.length) (by omega)
    have hle:decide (kept.length * 2+2≤(cv (kept ++ y::mid' ++ l.drop j) ++ w).length)=true:=by
     rw [List.length_append,cv_len,hlen];simp;omega
    have hov:=cv_set (w:=w) x (show kept.length<(kept ++ y::mid' ++ l.drop j).length by omega)
    have hset:(kept ++ y::mid' ++ l.drop j).set kept.length x=kept ++ [x] ++ (mid' ++ [x]) ++ l.drop (j+1):=by
     rw [hdr,List.append_assoc,List.set_append_right _ _ (Nat.le_refl _)]
     simp
    rw [hset] at hov
    simp +decide only [↓evd,evw,reduceCtorEq,↓reduceIte,e0,e1,e5,e6,hkl',hKne,hcs,hle,hov,hs,hs2]
    refine ⟨m - 1,by omega,j+1,kept ++ [x],mid' ++ [x],by omega,by omega,by simp,rfl,htk.symm,by simp,by simp at hkm ⊢;omega,?_,(hk1 x).set (.inl (by simp)) _⟩
    rfl
  ·have hjl2:j=l.length:=by omega
   subst hjl2
   have hlt':¬(l.length:Int)<(l.length:Int):=by omega
   rw [List.take_length] at hk
   rw [List.drop_length,List.append_nil] at hcs
   have hkl:kept.length<l.length:=by
    have:0<mid.length:=List.length_pos_iff.2 hmid
    simp at hkm;omega
   obtain ⟨⟨cap',q1⟩,q2⟩:=row_parts (K:=K) hcap hkl
   have hcvl:(cv (kept ++ mid) ++ w).length=l.length * 2+w.length:=by rw [List.length_append,cv_len,hkm]
   have hzl:((List.replicate (l.length - kept.length) [AVal.int IntKind.i64 0,AVal.int IntKind.i64 0]).flatten).length=(l.length - kept.length) * 2:=by simp
   have hzc:((List.replicate (l.length - kept.length) [AVal.int IntKind.i64 0,AVal.int IntKind.i64 0]).flatten).all AVal.isCell=true:=by simp [AVal.isCell]
   obtain ⟨zs,hze⟩:∃ zs,(List.replicate (l.length - kept.length) [AVal.int IntKind.i64 0,AVal.int IntKind.i64 0]).flatten=zs:=⟨_,rfl⟩
   rw [hze] at hzl hzc
   have hle:decide (kept.length * 2+(l.length - kept.length) * 2≤l.length * 2+w.length)=true:=by simp;omega
   have htake:(cv (kept ++ mid) ++ w).take (kept.length * 2)=cv kept:=by
    rw [cv_append,List.append_assoc,List.take_append_of_le_length (by rw [cv_len];exact Nat.le_refl _),List.take_of_length_le (by rw [cv_len];exact Nat.le_refl _)]
   simp +decide only [↓evd,evw,evz,reduceCtorEq,↓reduceIte,e0,e5,e6,hlt',q1,hcs,hze,hzl,hzc,hcvl,hle,htake,q2]
   rw [← hk]
   refine ⟨rfl,hK.set (.inl (by simp)) _,zs ++ (cv (kept ++ mid) ++ w).drop (kept.length * 2+(l.length - kept.length) * 2),?_⟩
   rw [List.append_assoc]
 ·refine ⟨j0+1,l.take j0,[l[j0]],by omega,by omega,?_⟩
  have hlj:(l.take j0).length=j0:=by simp;omega
  have happ:l.take j0 ++ [l[j0]]=l.take (j0+1):=(List.take_succ_eq_append_getElem h2).symm
  simp +decide only [evw,reduceCtorEq,↓reduceIte,hlj]
  refine ⟨h3.symm,by rw [happ,List.length_take];omega,by rw [happ,List.take_append_drop];exact hg,Keep.refl _ _⟩
theorem index_emp (σ:Heap) (g:FuncId) (caps:List AVal):ACall Tryz.prog n_slices_IndexFunc_api_Cut_api_Cut [.emp0,.fn g caps] σ (.int .i64 (-1)) σ:=by
 refine exact_call (spec_of_awp mixed c_slices_IndexFunc_api_Cut_api_Cut (tl rfl) ?_)
 unfold f_slices_IndexFunc_api_Cut_api_Cut
 simp +decide only [↓evd,evw,evz,reduceCtorEq,↓reduceIte]
 refine awp_loop_unroll ?_
 simp +decide only [↓evd,evw,reduceCtorEq,↓reduceIte]
theorem delete_emp (σ:Heap) (g:FuncId) (caps:List AVal):ACall Tryz.prog n_slices_DeleteFunc_api_Cut_api_Cut [.emp0,.fn g caps] σ .emp0 σ:=by
 refine exact_call (spec_of_awp mixed c_slices_DeleteFunc_api_Cut_api_Cut (tl rfl) ?_)
 unfold f_slices_DeleteFunc_api_Cut_api_Cut
 have hb:((-1:Int)== -1)=true:=rfl
 simp +decide only [↓evd,evw,reduceCtorEq,↓reduceIte]
 refine MSpec.of (index_emp σ g caps) ?_
 simp +decide only [↓evd,evw,reduceCtorEq,↓reduceIte]
theorem delete_own {B:Nat} {σ:Heap} {z:AVal} {cs:List Cut} (h:CutOwn B σ z cs) (hl:cs.length≤1000000) (g:FuncId) (caps:List AVal) (p:Cut→Bool) (hp:∀ τ,Keep (uid z) σ τ→∀ x∈cs,ACall Tryz.prog g (eCut x::caps) τ (.bool (p x)) τ):
  ∃ τ,ACall Tryz.prog n_slices_DeleteFunc_api_Cut_api_Cut [z,.fn g caps] σ (eCuts (cs.filter fun x=>!p x)) τ∧Keep (uid z) σ τ:=by
 rcases h with ⟨rfl,rfl⟩ | ⟨h0,h⟩
 ·exact ⟨σ,acall_see (delete_emp σ g caps) (Sees.emp0 σ 2),Keep.refl _ _⟩
 ·rcases h.2 with ⟨rfl,h1⟩ | ⟨K,cap,cs',opn,rfl,hg,ht,hB,hK,hcap⟩
  ·simp at h1;exact absurd h1 h0
  rw [List.length_map] at ht hcap
  rw [List.length_map] at hp ⊢
  rw [cv_flat] at ht
  have hsplit:cs'=cv cs ++ cs'.drop (cs.length * 2):=by rw [← ht,List.take_append_drop]
  rw [hsplit] at hg
  have hcap':(cap= .gr 2)∨∃ c,cap= .ex c∧cs.length≤c:=by
   rcases hcap with ⟨h1,_⟩ | ⟨c,h1,h2,_⟩
   ·exact .inl h1
   ·exact .inr ⟨c,h1,h2⟩
  obtain ⟨v,τ,hc,rfl,hk,w',hw⟩:=deleteC_spec σ K cap cs _ opn g caps p hl hcap' hg hp hK
  have hfl:(cs.filter fun x=>!p x).length≤cs.length:=List.length_filter_le _ _
  refine ⟨τ.set K .dead,acall_see hc ?_,hk.set (.inl (by simp)) _⟩
  refine Sees.own hw (by simp) (cuts_row _) ?_ ?_
  ·rw [List.drop_zero,cv_flat,List.take_append_of_le_length (by rw [cv_len];exact Nat.le_refl _),List.take_of_length_le (by rw [cv_len];exact Nat.le_refl _)]
  ·intro c hc2
   rcases hcap' with h1 | ⟨c',h1,h2⟩
   ·rw [h1] at hc2;cases hc2
   ·rw [h1] at hc2;cases hc2;omega
def goneG (gs u:List Int) (g:Int):Bool:=decide (g∈gs) && decide (g∈u)
def staysG (gs u:List Int) (g:Int):Bool:=decide (g∈gs) && !decide (g∈u)
def restA (gs u:List Int) (a:Atom):Option Atom:=
 if (goneG gs u a.group || a.cuts.any fun c=>staysG gs u c.group)=true then none else
 some {a with cuts:=a.cuts.filter (fun c=>!goneG gs u c.group),group:=if a.group∈gs then -1 else a.group}
def restL (gs u:List Int) (l:List Atom):List Atom:=l.filterMap (restA gs u)
section
variable {σ:Heap} {b4 b5 b7 b8:Nat} {gs u:List Int}
theorem rest1_call (h4:σ.get b4=some (.cells [ints gs] none)) (h5:σ.get b5=some (.cells [ints u] none)) (hg:gs.length≤1000000) (hu:u.length≤1000000) (g:Int):ACall Tryz.prog n_engine_rest_1 [.int .i64 g,.ptr (.new b4) 0,.ptr (.new b5) 0] σ (.bool (goneG gs u g)) σ:=by
 refine exact_call (spec_of_awp mixed c_engine_rest_1 (tl rfl) ?_)
 unfold f_engine_rest_1
 have hc1:=contains_call σ gs g (by omega)
 have hc2:=contains_call σ u g (by omega)
 simp only [ints] at h4 h5 hc1 hc2
 simp +decide only [↓evd,evw,reduceCtorEq,↓reduceIte,h4]
 refine MSpec.of hc1 ?_
 by_cases h:g∈gs
 ·simp +decide only [↓evd,evw,reduceCtorEq,↓reduceIte,mem_bool h,h5]
  refine MSpec.of hc2 ?_
  simp +decide only [↓evd,evw,reduceCtorEq,↓reduceIte,goneG,mem_bool h]
 ·simp +decide only [↓evd,evw,reduceCtorEq,↓reduceIte,not_mem_bool h,goneG]
theorem rest2_call (h4:σ.get b4=some (.cells [ints gs] none)) (h5:σ.get b5=some (.cells [ints u] none)) (hg:gs.length≤1000000) (hu:u.length≤1000000) (g:Int):ACall Tryz.prog n_engine_rest_2 [.int .i64 g,.ptr (.new b4) 0,.ptr (.new b5) 0] σ (.bool (staysG gs u g)) σ:=by
 refine exact_call (spec_of_awp mixed c_engine_rest_2 (tl rfl) ?_)
 unfold f_engine_rest_2
 have hc1:=contains_call σ gs g (by omega)
 have hc2:=contains_call σ u g (by omega)
 simp only [ints] at h4 h5 hc1 hc2
 simp +decide only [↓evd,evw,reduceCtorEq,↓reduceIte,h4]
 refine MSpec.of hc1 ?_
 by_cases h:g∈gs
 ·simp +decide only [↓evd,evw,reduceCtorEq,↓reduceIte,mem_bool h,h5]
  refine MSpec.of hc2 ?_
  simp +decide only [↓evd,evw,reduceCtorEq,↓reduceIte,staysG,mem_bool h]
 ·simp +decide only [↓evd,evw,reduceCtorEq,↓reduceIte,not_mem_bool h,staysG]
theorem rest3_call (h8:σ.get b8=some (.cells [.fn n_engine_rest_2 [.ptr (.new b4) 0,.ptr (.new b5) 0]] none)) (h4:σ.get b4=some (.cells [ints gs] none)) (h5:σ.get b5=some (.cells [ints u] none)) (l8:b8<σ.next) (l4:b4<σ.next) (l5:b5<σ.next) (hg:gs.length≤1000000) (hu:u.length≤1000000) (c:Cut):
  ACall Tryz.prog n_engine_rest_3 [eCut c,.ptr (.new b8) 0] σ (.bool (staysG gs u c.group)) σ:=by
 refine gc_call rfl (spec_of_awp mixed c_engine_rest_3 (tl rfl) ?_)
 unfold f_engine_rest_3
 have hc:=rest2_call (σ:=σ.new (.cells [.int .i64 c.rev,.int .i64 c.group] none)) (b4:=b4) (b5:=b5) (gs:=gs) (u:=u) (by rw [new_get l4];exact h4) (by rw [new_get l5];exact h5) hg hu c.group
 have e8:(σ.next=b8)=False:=lt_next l8
 simp +decide only [↓evd,evw,evz,reduceCtorEq,↓reduceIte,e8,h8]
 refine MSpec.of hc ?_
 simp +decide only [↓evd,evw,reduceCtorEq,↓reduceIte]
 exact fun k hk=>by rw [if_neg (by omega)]
theorem rest4_call (h7:σ.get b7=some (.cells [.fn n_engine_rest_1 [.ptr (.new b4) 0,.ptr (.new b5) 0]] none)) (h4:σ.get b4=some (.cells [ints gs] none)) (h5:σ.get b5=some (.cells [ints u] none)) (l7:b7<σ.next) (l4:b4<σ.next) (l5:b5<σ.next) (hg:gs.length≤1000000) (hu:u.length≤1000000) (c:Cut):
  ACall Tryz.prog n_engine_rest_4 [eCut c,.ptr (.new b7) 0] σ (.bool (goneG gs u c.group)) σ:=by
 refine gc_call rfl (spec_of_awp mixed c_engine_rest_4 (tl rfl) ?_)
 unfold f_engine_rest_4
 have hc:=rest1_call (σ:=σ.new (.cells [.int .i64 c.rev,.int .i64 c.group] none)) (b4:=b4) (b5:=b5) (gs:=gs) (u:=u) (by rw [new_get l4];exact h4) (by rw [new_get l5];exact h5) hg hu c.group
 have e7:(σ.next=b7)=False:=lt_next l7
 simp +decide only [↓evd,evw,evz,reduceCtorEq,↓reduceIte,e7,h7]
 refine MSpec.of hc ?_
 simp +decide only [↓evd,evw,reduceCtorEq,↓reduceIte]
 exact fun k hk=>by rw [if_neg (by omega)]
end
theorem slc_to {K n i k:Nat} (h:i≤n):aSlc k (.slc (.new K) 0 n (.ex n)) none (some (.int .i64 (i:Nat))) none=some (.slc (.new K) 0 i (.ex n)):=by
 have b3:aBound none n n=some n:=rfl
 have b1:aBound (some (.int .i64 (i:Nat))) n n=some i:=by simp only [aBound];rw [if_pos (by simp;omega)];rfl
 have b4:aBound none 0 i=some 0:=rfl
 simp only [aSlc,b3,b1,b4,Option.isSome_none,Bool.false_and,Bool.false_eq_true,if_false,Nat.zero_mul,Nat.add_zero,Nat.sub_zero,ite_self]
theorem copy_one {σ:Heap} {K B n i:Nat} {F r:List AVal} {c0 c1 c2 c3 c4:AVal} {cap1 cap2:Cap} (hK:σ.get K=some (.cells (F ++ r) none)) (hB:σ.get B=some (.cells [c0,c1,c2,c3,c4] none)) (hF:F.length=i * 5) (hr:r.length=(n - i) * 5) (hi:i<n) (hc:[c0,c1,c2,c3,c4].all AVal.isCell=true):
  aCopy 5 (.slc (.new K) (i * 5) (n - i) cap1) (.slc (.new B) 0 1 cap2) σ=some (.int .i64 1,σ.set K (.cells (F ++ [c0,c1,c2,c3,c4] ++ r.drop 5) none)):=by
 have h1:=cellsFrom_whole hB
 have hm:min 1 (n - i)=1:=by omega
 simp only [aCopy,aSLen,aLenOf,hm,srcCells,slcCells,Nat.le_refl,if_true,Nat.one_mul]
 rw [show cellsFrom σ (.new B) 0 5=some [c0,c1,c2,c3,c4] from h1]
 simp only [show ¬(1:Nat)=0 by decide,if_false,storeAt,hK]
 rw [if_pos (by simp only [hc,Bool.and_true,decide_eq_true_eq,List.length_append,hF,hr,List.length_cons,List.length_nil];omega)]
 simp only [Option.map_some,over,← hF,List.take_left]
 simp only [List.length_cons,List.length_nil,Nat.zero_add,Nat.reduceAdd]
 rw [List.drop_append,List.drop_eq_nil_of_le (show F.length≤F.length+5 by omega)]
 simp
theorem restL_take {gs u:List Int} {l:List Atom} {i:Nat} (h:i<l.length):restL gs u (l.take (i+1))=restL gs u (l.take i) ++ (restA gs u l[i]).toList:=by
 rw [restL,List.take_succ_eq_append_getElem h,List.filterMap_append]
 congr 1
theorem restL_len (gs u:List Int) (l:List Atom):(restL gs u l).length≤l.length:=List.length_filterMap_le _ _
set_option maxHeartbeats 8000000 in
theorem rest_call (σ:Heap) (l:List Atom) (gs u:List Int) (hg:gs.length≤1000000) (hu:u.length≤1000000) (hl:l.length≤1000000) (hc:∀ a∈l,a.cuts.length≤1000000):
  ACall Tryz.prog n_engine_rest [eAtoms l,ints gs,ints u] σ (eAtoms (restL gs u l)) σ:=by
 refine bare_call (by simp only [AVal.pures,eAtoms_pure,ints_pure];rfl) (eAtoms_pure _) (fun W F=>spec_of_awp mixed c_engine_rest (tl rfl) ?_) σ
 unfold f_engine_rest
 have hm0:(0:Int)≤(l.length:Int):=by omega
 have hm2:l.length * 64≤maxRoom:=by unfold maxRoom;omega
 have hm4:l.length≤maxRoom:=by unfold maxRoom;omega
 have hm3:(l.length:Int)≤2 ^ 62:=by omega
 simp +decide only [↓evd,evw,evz,reduceCtorEq,↓reduceIte,hm0,hm2,hm3]
 have hc0:((List.replicate l.length [AVal.str [],AVal.int IntKind.i64 0,AVal.int IntKind.i64 0,AVal.int IntKind.i64 0,AVal.nils]).flatten).length=l.length * 5:=by
  exact repl_len l.length _
 generalize (List.replicate l.length [AVal.str [],AVal.int IntKind.i64 0,AVal.int IntKind.i64 0,AVal.int IntKind.i64 0,AVal.nils]).flatten=cs0 at hc0
 refine awp_loop (fun m fr τ=>∃ (i:Nat) (r:List AVal),m+i=l.length∧fr.get 4= .ptr (.new 0) 0∧fr.get 7= .ptr (.new 2) 0∧fr.get 8= .ptr (.new 3) 0∧fr.get 9= .slc (.new 4) 0 l.length (.ex l.length)∧fr.get 10= .int .i64 ((restL gs u (l.take i)).length:Nat)∧fr.get 18=eAtoms l∧fr.get 19= .int .i64 (l.length:Nat)∧fr.get 20= .int .i64 (i:Nat)∧
  τ.get 0=some (.cells [ints gs] none)∧τ.get 1=some (.cells [ints u] none)∧τ.get 2=some (.cells [.fn n_engine_rest_1 [.ptr (.new 0) 0,.ptr (.new 1) 0]] none)∧τ.get 3=some (.cells [.fn n_engine_rest_2 [.ptr (.new 0) 0,.ptr (.new 1) 0]] none)∧
  τ.get 4=some (.cells (((restL gs u (l.take i)).map eAtom).flatMap AVal.cells ++ r) none)∧r.length=(l.length - (restL gs u (l.take i)).length) * 5∧5≤τ.next∧τ.W=W∧τ.F0=F) ?_ (m:=l.length) ?_
 ·rintro m fr τ ⟨i,r,hi,e4,e7,e8,e9,e10,e18,e19,e20,g0,g1,g2,g3,g4,hr,hn5,hW,hF⟩
  by_cases hlt:i<l.length
  ·have hlt':(i:Int)<(l.length:Int):=by omega
   have hs:=wrap_succ (i:=i) (by omega)
   have hgt:=map_get eAtom l i hlt
   have hrt:=restL_take (gs:=gs) (u:=u) hlt
   have hcl:=hc _ (List.getElem_mem hlt)
   have hdl:(restL gs u (l.take i)).length≤i:=by have:=restL_len gs u (l.take i);rw [List.length_take] at this;omega
   generalize l[i]=a at hgt hrt hcl
   obtain ⟨A,hA⟩:∃ A,τ.next=A:=⟨_,rfl⟩
   have hk1:Keep [] τ ((τ.new (.cells [.str [],.int .i64 0,.int .i64 0,.int .i64 0,.nils] none)).set τ.next (.cells [.str a.text,.int .i64 a.rev,.int .i64 a.group,.int .i64 a.rank,eCuts a.cuts] none)):=(Keep.refl _ _).junk _ _
   have hAget:((τ.new (.cells [.str [],.int .i64 0,.int .i64 0,.int .i64 0,.nils] none)).set τ.next (.cells [.str a.text,.int .i64 a.rev,.int .i64 a.group,.int .i64 a.rank,eCuts a.cuts] none)).get τ.next=some (.cells [.str a.text,.int .i64 a.rev,.int .i64 a.group,.int .i64 a.rank,eCuts a.cuts] none):=by rw [Heap.get_set,if_pos rfl]
   have hnx:((τ.new (.cells [.str [],.int .i64 0,.int .i64 0,.int .i64 0,.nils] none)).set τ.next (.cells [.str a.text,.int .i64 a.rev,.int .i64 a.group,.int .i64 a.rank,eCuts a.cuts] none)).next=τ.next+1:=by simp
   obtain ⟨τa,hτa⟩:∃ τa,(τ.new (.cells [.str [],.int .i64 0,.int .i64 0,.int .i64 0,.nils] none)).set τ.next (.cells [.str a.text,.int .i64 a.rev,.int .i64 a.group,.int .i64 a.rank,eCuts a.cuts] none)=τa:=⟨_,rfl⟩
   rw [hτa] at hk1 hAget hnx
   have a0:τa.get 0=some (.cells [ints gs] none):=by rw [hk1.get (by omega)];exact g0
   have a1:τa.get 1=some (.cells [ints u] none):=by rw [hk1.get (by omega)];exact g1
   have a2:τa.get 2=some (.cells [.fn n_engine_rest_1 [.ptr (.new 0) 0,.ptr (.new 1) 0]] none):=by rw [hk1.get (by omega)];exact g2
   have a3:τa.get 3=some (.cells [.fn n_engine_rest_2 [.ptr (.new 0) 0,.ptr (.new 1) 0]] none):=by rw [hk1.get (by omega)];exact g3
   have a4:τa.get 4=some (.cells (((restL gs u (l.take i)).map eAtom).flatMap AVal.cells ++ r) none):=by rw [hk1.get (by omega)];exact g4
   have hWa:τa.W=W:=hk1.1.trans hW
   have hFa:τa.F0=F:=hk1.2.1.trans hF
   have c1:=rest1_call a0 a1 hg hu a.group
   have c2:=containsFunc_call τa a.cuts n_engine_rest_3 [.ptr (.new 3) 0] (fun c=>staysG gs u c.group) (by omega) (fun c _=>rest3_call a3 a0 a1 (by omega) (by omega) (by omega) hg hu c)
   rw [hA] at hAget hnx hτa
   simp only [eCuts] at c2 hAget hτa
   simp +decide only [↓evd,evw,evz,reduceCtorEq,↓reduceIte,e7,e18,e19,e20,hlt',hgt,hA,hτa,a2,hAget]
   refine MSpec.of c1 ?_
   cases hgone:goneG gs u a.group with
   | true=>
    have hra:restA gs u a=none:=by rw [restA,hgone,Bool.true_or,if_pos rfl]
    rw [hra,Option.toList_none,List.append_nil] at hrt
    simp +decide only [↓evd,evw,evz,reduceCtorEq,↓reduceIte,e4,e7,e8,e9,e10,e18,e19,e20,hs]
    rw [← hrt] at a4 hr
    exact ⟨m - 1,by omega,i+1,r,by omega,by rw [hrt],rfl,a0,a1,a2,a3,a4,hr,by omega,hWa,hFa⟩
   | false=>
   simp +decide only [↓evd,evw,reduceCtorEq,↓reduceIte,e8,hAget]
   refine MSpec.of c2 ?_
   cases hany:a.cuts.any (fun c=>staysG gs u c.group) with
   | true=>
    have hra:restA gs u a=none:=by rw [restA,hgone,hany];rfl
    rw [hra,Option.toList_none,List.append_nil] at hrt
    simp +decide only [↓evd,evw,evz,reduceCtorEq,↓reduceIte,e4,e7,e8,e9,e10,e18,e19,e20,hs]
    rw [← hrt] at a4 hr
    exact ⟨m - 1,by omega,i+1,r,by omega,by rw [hrt],rfl,a0,a1,a2,a3,a4,hr,by omega,hWa,hFa⟩
   | false=>
   have hra:restA gs u a=some {a with cuts:=a.cuts.filter (fun c=>!goneG gs u c.group),group:=if a.group∈gs then -1 else a.group}:=by rw [restA,hgone,hany];rfl
   rw [hra,Option.toList_some] at hrt
   have hcc:=clone_cut τa a.cuts (by omega)
   simp only [eCuts] at hcc
   simp +decide only [↓evd,evw,reduceCtorEq,↓reduceIte,hAget]
   refine hcc.mono ?_
   rintro z τ1 ⟨hz,hk2⟩
   have k2:=fun q (hq:q<A+1)=>hk2.get (k:=q) (by omega)
   have hz1:=hz.low
   obtain ⟨τ2,hdel,hk3⟩:=delete_own hz (by omega) n_engine_rest_4 [.ptr (.new 2) 0] (fun c=>goneG gs u c.group) (fun ρ hkρ c _=>by
    have hget:∀ q,q<A+1→ρ.get q=τa.get q:=fun q hq=>by
     rw [hkρ.2.2.2 q (by have:=hk2.2.2.1;omega) (fun hm=>by have:=(hz1 q hm).1;omega),k2 q hq]
    have hnρ:=hkρ.2.2.1
    have hn1:=hk2.2.2.1
    exact rest4_call (by rw [hget 2 (by omega)];exact a2) (by rw [hget 0 (by omega)];exact a0) (by rw [hget 1 (by omega)];exact a1) (by omega) (by omega) (by omega) hg hu c)
   have hget:∀ q,q<A+1→τ2.get q=τa.get q:=fun q hq=>by
    rw [hk3.2.2.2 q (by have:=hk2.2.2.1;omega) (fun hm=>by have:=(hz1 q hm).1;omega),k2 q hq]
   have hn2:A+1≤τ2.next:=by have:=hk2.2.2.1;have:=hk3.2.2.1;omega
   have d0:τ2.get 0=some (.cells [ints gs] none):=by rw [hget 0 (by omega)];exact a0
   have dA:τ2.get A=some (.cells [.str a.text,.int .i64 a.rev,.int .i64 a.group,.int .i64 a.rank,.fsl 2 (a.cuts.map eCut)] none):=by rw [hget A (by omega)];exact hAget
   have d4:τ2.get 4=some (.cells (((restL gs u (l.take i)).map eAtom).flatMap AVal.cells ++ r) none):=by rw [hget 4 (by omega)];exact a4
   have hW2:τ2.W=W:=hk3.1.trans (hk2.1.trans hWa)
   have hF2:τ2.F0=F:=hk3.2.1.trans (hk2.2.1.trans hFa)
   have fA:∀ q,q<5→(A=q)=False:=fun q hq=>eq_false (by omega)
   have cgs:=fun ρ=>contains_call ρ gs a.group (by omega)
   simp only [ints] at cgs d0
   generalize hck:a.cuts.filter (fun c=>!goneG gs u c.group)=ck at hra hrt hdel
   simp only [eCuts] at hdel
   simp +decide only [↓evd,evw,reduceCtorEq,↓reduceIte,e7]
   refine MSpec.of hdel ?_
   simp +decide only [↓evd,evw,reduceCtorEq,↓reduceIte,e4,dA,fA 0 (by omega),d0]
   refine MSpec.of (cgs _) ?_
   have fin:∀ (gr:Int) (ρ:Heap),gr=(if a.group∈gs then -1 else a.group)→ρ.next=τ2.next→ρ.W=W→ρ.F0=F→(∀ q,q≠A→ρ.get q=τ2.get q)→
     ∃ ρ2,aCopy 5 (.slc (.new 4) ((restL gs u (l.take i)).length * 5) (l.length - (restL gs u (l.take i)).length) (.ex (l.length - (restL gs u (l.take i)).length))) (.slc (.new ρ.next) 0 1 (.ex 1)) (ρ.new (.cells [.str a.text,.int .i64 a.rev,.int .i64 gr,.int .i64 a.rank,.fsl 2 (ck.map eCut)] none))=some (.int .i64 1,ρ2)∧
     (∀ q,q≠4→q<A→ρ2.get q=τ2.get q)∧ρ2.get A=ρ.get A∧ρ2.get 4=some (.cells (((restL gs u (l.take (i+1))).map eAtom).flatMap AVal.cells ++ r.drop 5) none)∧ρ2.W=W∧ρ2.F0=F∧5≤ρ2.next:=by
    intro gr ρ hgr hnρ hWρ hFρ hgρ
    have h4:(ρ.new (.cells [.str a.text,.int .i64 a.rev,.int .i64 gr,.int .i64 a.rank,.fsl 2 (ck.map eCut)] none)).get 4=some (.cells (((restL gs u (l.take i)).map eAtom).flatMap AVal.cells ++ r) none):=by
     rw [Heap.get_new,if_neg (by omega),hgρ 4 (by omega)];exact d4
    have hfl:=flat_len (atoms_row (restL gs u (l.take i)))
    rw [List.length_map] at hfl
    refine ⟨_,copy_one h4 (by rw [Heap.get_new,if_pos rfl]) hfl hr (by omega) rfl,?_,?_,?_,?_,?_,?_⟩
    ·intro q h1 h2
     rw [Heap.get_set,if_neg (fun e=>h1 e.symm),Heap.get_new,if_neg (by omega),hgρ q (by omega)]
    ·rw [Heap.get_set,if_neg (by omega),Heap.get_new,if_neg (by omega)]
    ·rw [Heap.get_set,if_pos rfl,hrt,List.map_append,List.flatMap_append,hgr]
     simp only [List.map_cons,List.map_nil,List.flatMap_cons,List.flatMap_nil,List.append_nil]
     rfl
    ·rw [Heap.set_W,Heap.new_W];exact hWρ
    ·rw [Heap.set_F0,Heap.new_F0];exact hFρ
    ·simp only [Heap.set_next,Heap.new_next,hnρ];omega
   have hq1:aSlc 5 (.slc (.new 4) 0 l.length (.ex l.length)) (some (.int .i64 ((restL gs u (l.take i)).length:Nat))) none none=some (.slc (.new 4) ((restL gs u (l.take i)).length * 5) (l.length - (restL gs u (l.take i)).length) (.ex (l.length - (restL gs u (l.take i)).length))):=by
    have:=(row_parts (K:=4) (n:=l.length) (j:=(restL gs u (l.take i)).length) (k:=5) (cap:= .ex l.length) (.inr ⟨_,rfl,Nat.le_refl _⟩) (by omega))
    have b3:aBound none l.length l.length=some l.length:=rfl
    have b2:aBound (some (.int .i64 ((restL gs u (l.take i)).length:Nat))) 0 l.length=some (restL gs u (l.take i)).length:=by simp only [aBound];rw [if_pos (by simp;omega)];rfl
    simp only [aSlc,b3,b2,Option.isSome_none,Bool.false_and,Bool.false_eq_true,if_false,Nat.zero_add,if_neg (show ¬l.length=(restL gs u (l.take i)).length by omega)]
   have hlen1:(restL gs u (l.take (i+1))).length=(restL gs u (l.take i)).length+1:=by rw [hrt,List.length_append];rfl
   have hw1:=wrap_succ (i:=(restL gs u (l.take i)).length) (by omega)
   have hrd:(r.drop 5).length=(l.length - (restL gs u (l.take (i+1))).length) * 5:=by rw [List.length_drop,hr,hlen1];omega
   have hAn:(τ2.next=A)=False:=eq_false (by omega)
   have key:∀ ρ2:Heap,(∀ q,q≠4→q<A→ρ2.get q=τ2.get q)→ρ2.get 0=some (.cells [ints gs] none)∧ρ2.get 1=some (.cells [ints u] none)∧ρ2.get 2=some (.cells [.fn n_engine_rest_1 [.ptr (.new 0) 0,.ptr (.new 1) 0]] none)∧ρ2.get 3=some (.cells [.fn n_engine_rest_2 [.ptr (.new 0) 0,.ptr (.new 1) 0]] none):=fun ρ2 h=>
    ⟨by rw [h 0 (by omega) (by omega),hget 0 (by omega)];exact a0,by rw [h 1 (by omega) (by omega),hget 1 (by omega)];exact a1,by rw [h 2 (by omega) (by omega),hget 2 (by omega)];exact a2,by rw [h 3 (by omega) (by omega),hget 3 (by omega)];exact a3⟩
   by_cases hin:a.group∈gs
   ·obtain ⟨ρ2,f1,f2,fAA,f3,f4,f5,f6⟩:=fin (-1) ((τ2.set A (.cells [.str a.text,.int .i64 a.rev,.int .i64 a.group,.int .i64 a.rank,.fsl 2 (ck.map eCut)] none)).set A (.cells [.str a.text,.int .i64 a.rev,.int .i64 (-1),.int .i64 a.rank,.fsl 2 (ck.map eCut)] none)) (by rw [if_pos hin]) rfl hW2 hF2 (fun q hq=>by rw [Heap.get_set,if_neg (fun e=>hq e.symm),Heap.get_set,if_neg (fun e=>hq e.symm)])
    simp only [Heap.set_next] at f1
    obtain ⟨k0,k1,k2',k3⟩:=key ρ2 f2
    simp +decide only [↓evd,evw,reduceCtorEq,↓reduceIte,mem_bool hin]
    with_reducible refine draw_of_grow (fun q=>q=A) (ms:=[false,false,false,false,false,false,false,false,false]) (by kernel_rfl) ?_
    simp +decide only [↓evd,evw,reduceCtorEq,↓reduceIte,e9,e10,hq1]
    refine ⟨.inr (keeps_new (fun q hq=>by subst hq;simp only [Heap.set_next];omega) _),?_⟩
    simp +decide only [↓evd,evw,reduceCtorEq,↓reduceIte,f1]
    refine ⟨.inr ⟨by rw [f4,Heap.new_W,Heap.set_W,Heap.set_W,hW2],fun q hq=>by subst hq;rw [fAA,Heap.get_new,if_neg (by simp only [Heap.set_next];omega)]⟩,?_⟩
    simp +decide only [↓evd,evw,evz,reduceCtorEq,↓reduceIte,e4,e7,e8,e9,e18,e19,e20,hw1,hs]
    exact ⟨m - 1,by omega,i+1,_,by omega,by rw [hlen1],rfl,k0,k1,k2',k3,f3,hrd,f6,f4,f5⟩
   ·obtain ⟨ρ2,f1,f2,fAA,f3,f4,f5,f6⟩:=fin a.group (τ2.set A (.cells [.str a.text,.int .i64 a.rev,.int .i64 a.group,.int .i64 a.rank,.fsl 2 (ck.map eCut)] none)) (by rw [if_neg hin]) (Heap.set_next _ _ _) hW2 hF2 (fun q hq=>by rw [Heap.get_set,if_neg (fun e=>hq e.symm)])
    simp only [Heap.set_next] at f1
    obtain ⟨k0,k1,k2',k3⟩:=key ρ2 f2
    simp +decide only [↓evd,evw,↓reduceIte,not_mem_bool hin]
    with_reducible refine draw_of_grow (fun q=>q=A) (ms:=[false,false,false,false,false,false,false,false,false]) (by kernel_rfl) ?_
    simp +decide only [↓evd,evw,reduceCtorEq,↓reduceIte,e9,e10,hq1]
    refine ⟨.inr (keeps_new (fun q hq=>by subst hq;simp only [Heap.set_next];omega) _),?_⟩
    simp +decide only [↓evd,evw,reduceCtorEq,↓reduceIte,f1]
    refine ⟨.inr ⟨by rw [f4,Heap.new_W,Heap.set_W,hW2],fun q hq=>by subst hq;rw [fAA,Heap.get_new,if_neg (by simp only [Heap.set_next];omega)]⟩,?_⟩
    simp +decide only [↓evd,evw,evz,reduceCtorEq,↓reduceIte,e4,e7,e8,e9,e18,e19,e20,hw1,hs]
    exact ⟨m - 1,by omega,i+1,_,by omega,by rw [hlen1],rfl,k0,k1,k2',k3,f3,hrd,f6,f4,f5⟩
  ·have hlt':¬(i:Int)<(l.length:Int):=by omega
   rw [List.take_of_length_le (by omega)] at e10 g4 hr
   have hdl:=restL_len gs u l
   have hq:=slc_to (K:=4) (k:=5) hdl
   simp +decide only [↓evd,evw,reduceCtorEq,↓reduceIte,e9,e10,e19,e20,hlt',hq]
   have hfl:=flat_len (atoms_row (restL gs u l))
   rw [List.length_map] at hfl
   refine ⟨τ.set 4 .dead,Sees.own g4 (by simp) (atoms_row _) ?_ (fun c hc=>by cases hc;exact hdl),hW,hF⟩
   rw [List.drop_zero,List.take_append_of_le_length (by omega),List.take_of_length_le (by omega)]
 ·refine ⟨0,cs0,by omega,?_⟩
  simp +decide only [evw,evz,↓reduceIte]
  simp only [restL,List.filterMap_nil,List.map_nil,List.flatMap_nil,List.nil_append,List.length_nil,Nat.sub_zero]
  exact ⟨rfl,trivial,hc0⟩
theorem wrap_suc {i:Nat} (h:i<9223372036854775807):IntKind.i64.wrap ((i:Int)+1)=((i+1:Nat):Int):=by rw [wrap_id (by omega) (by omega)];rfl
structure Step where
 what:Int
 base:Int
 group:Int
 rank:Int
 c:List Chg
 groups:List Int
def eStep (x:Step):AVal:= .agg [.int .i64 x.what,.int .i64 x.base,.int .i64 x.group,.int .i64 x.rank,eChgs x.c,ints x.groups]
def eSteps (l:List Step):AVal:= .fsl 6 (l.map eStep)
theorem eStep_pure (x:Step):(eStep x).pure=true:=by simp only [eStep,AVal.pure,AVal.pures,eChgs_pure,ints_pure];rfl
theorem eSteps_pure (l:List Step):(eSteps l).pure=true:=by simp only [eSteps,AVal.pure];exact pures_map _ _ (fun _ _=>eStep_pure _)
def fewOne (x:Step):Bool:=x.c.all (fun c=>decide (c.text.length≤60)) && decide (x.c.length≤12) && decide (x.groups.length≤20)
def StepFits (x:Step):Prop:=x.c.length≤9223372036854775807∧x.groups.length≤9223372036854775807
def gChg (x:Chg):Prop:=GInt .i64 x.frm∧GInt .i64 x.to∧GStr x.text
def gStep (x:Step):Prop:=GInt .i64 x.what∧GInt .i64 x.base∧GInt .i64 x.group∧GInt .i64 x.rank∧GList gChg x.c∧GList (GInt .i64) x.groups
theorem maxLen_le:maxLen≤9223372036854775807:=by decide
theorem steps_fit {l:List Step} (h:GList gStep l):l.length≤9223372036854775807∧∀ x∈l,StepFits x:=by
 have hm:=maxLen_le
 refine ⟨Nat.le_trans h.2 hm,fun x hx=>?_⟩
 obtain ⟨_,_,_,_,h5,h6⟩:=h.1 x hx
 exact ⟨Nat.le_trans h5.2 hm,Nat.le_trans h6.2 hm⟩
end Go.Proofs.YtioampofolilnaaGreat.M
namespace Go.Proofs.YtioampofolilnaaGreat.M
open Go Go.Mini
theorem places_nonneg (rev:Int) (u:List Int):∀ (l:List Atom) (n:Nat),∀ p∈places rev u l n,0≤p
 | [],n,p,h=>by simp [places] at h;omega
 | a::l,n,p,h=>by
  simp only [places,List.mem_cons] at h
  rcases h with rfl | h
  ·omega
  ·exact places_nonneg rev u l _ p h
theorem spotF_low (rev:Int) (u:List Int) (at':Int):∀ (l:List Atom) (ps:List Int) (i acc:Nat),(∀ p∈ps,at'≤p)→spotF rev u at' l ps i acc=acc
 | [],ps,i,acc,h=>by simp [spotF]
 | a::l,[],i,acc,h=>by simp [spotF]
 | a::l,p::ps,i,acc,h=>by
  have h1:=h p (by simp)
  simp only [spotF]
  rw [if_neg (fun h2=>by omega)]
  exact spotF_low rev u at' l ps _ _ fun q hq=>h q (List.mem_cons_of_mem _ hq)
theorem cutsF_none (rev:Int) (u:List Int) (cs:List Chg) (h:∀ p,cutHit cs p=false):∀ (l:List Atom) (ps:List Int) (i:Nat),cutsF rev u cs l ps i=[]
 | [],ps,i=>by simp [cutsF]
 | a::l,[],i=>by simp [cutsF]
 | a::l,p::ps,i=>by
  simp only [cutsF,h,Bool.and_false,Bool.false_eq_true,if_false,List.nil_append]
  exact cutsF_none rev u cs h l ps _
theorem marked_nil (c:Cut):∀ (l:List Atom) (i:Nat),marked [] c l i=l
 | [],i=>rfl
 | a::l,i=>by simp only [marked,List.not_mem_nil,if_false,marked_nil c l]
theorem atoms_valid {l:List Atom} (h:∀ a∈l,IsCP a.text) (rev:Int) (u:List Int):∃ ps,atomsText rev u l=List.flatten ps∧∀ p∈ps,IsCP p:=by
 refine ⟨(l.filter (visible rev u)).map Atom.text,?_,?_⟩
 ·induction l with
  | nil=>rfl
  | cons a l ih=>
   simp only [atomsText,List.filter_cons]
   rw [ih fun b hb=>h b (List.mem_cons_of_mem _ hb)]
   split <;> simp
 ·intro p hp
  simp only [List.mem_map,List.mem_filter] at hp
  obtain ⟨a,⟨ha,_⟩,rfl⟩:=hp
  exact h a ha
theorem cp_ascii {b:UInt8} (h:b.toNat<128):IsCP [b]:=⟨by simp,by rw [pt,if_pos h];rfl⟩
theorem check_front {s:List UInt8} (hs:∃ ps,s=List.flatten ps∧∀ p∈ps,IsCP p) {t:List UInt8} (ht:valid t=true) (hl:s.length+t.length≤20000):check s [⟨0,0,t⟩]=0:=by
 obtain ⟨ps,rfl,hp⟩:=hs
 have hv:=valid_flat hp
 have he:isEdge ps.flatten 0=true:=(edge_flat hp 0).2 ⟨0,Nat.zero_le _,by simp⟩
 have hw:IntKind.i64.wrap ((0:Int) - 0)=0:=by decide
 have hg:gain ps.flatten.length ⟨0,0,t⟩=0:=by
  simp only [gain,gain0,hw]
  rw [if_neg (show ¬(0:Int)<0 by omega),if_neg (by omega)]
 have hlong:longI ps.flatten [⟨0,0,t⟩]=0:=by
  simp only [longI,gains,List.map_cons,List.map_nil,hg,List.sum_cons,List.sum_nil,longR]
  rw [if_neg (by omega),if_neg (by omega)]
 have hn:¬((ps.flatten.length:Int)<0):=by omega
 unfold check
 rw [if_neg (by rw [hv];simp),if_neg (by simp)]
 simp only [errs,List.any_cons,List.any_nil,Bool.or_false,chgOut,chgIn,he,disorder,ht,hlong,decide_eq_false hn]
 rfl
theorem edit_front {E:Eng} (h:E.Ok) (hR:E.R.Ok) (hrev:∀ a∈E.l,a.rev≤(E.R.head:Nat)) {g rank:Int} {b:UInt8} (hb:b.toNat<128) (hg0:0≤g) (hg1:g<60) (hgo:g∉E.R.gone) (hh:E.R.head<200) (hr0:0≤rank) (hr1:rank≤1000000) (hlen:E.l.length<4000):
  editE E (E.R.head:Nat) g rank [⟨0,0,[b]⟩]=(⟨⟨[b],(E.R.head:Int)+1,g,rank,[]⟩::E.l,{E.R.push E.R.top with grp:=insS g E.R.grp}⟩,(E.R.head:Int)+1,0):=by
 have hcp:=cp_ascii hb
 have hv:=atoms_valid h.txt (E.R.head:Nat) (E.R.undone (E.R.head:Nat))
 have hle:=atomsText_le (E.R.head:Nat) (E.R.undone (E.R.head:Nat)) h.txt
 have hck:check (E.text (E.R.head:Nat)) [⟨0,0,[b]⟩]=0:=check_front hv (valid_iff.2 ⟨[[b]],by simp,by simpa using hcp⟩) (by simp only [List.length_cons,List.length_nil];omega)
 have hck':check (atomsText (E.R.head:Nat) (E.R.undone (E.R.head:Nat)) E.l) [⟨0,0,[b]⟩]=0:=hck
 have hadd:=add_good (R:=E.R) hgo hg0 hg1 hh
 have hspot:spot E.l (places (E.R.head:Nat) (E.R.undone (E.R.head:Nat)) E.l 0) (E.R.head:Nat) (E.R.undone (E.R.head:Nat)) 0 rank=0:=by
  unfold spot
  rw [spotF_low _ _ _ _ _ _ _ (places_nonneg _ _ _ _)]
  simp only [List.drop_zero]
  cases hE:E.l with
  | nil=>rfl
  | cons a l=>
   have:=hrev a (by rw [hE];simp)
   rw [spotG,if_neg (by omega)]
 have hup:upon E.l (E.R.head:Nat) (E.R.undone (E.R.head:Nat)) [⟨0,0,[b]⟩] ((E.R.head:Int)+1) g rank=⟨[b],(E.R.head:Int)+1,g,rank,[]⟩::E.l:=by
  rw [upon,if_pos hck']
  have hct:cuts E.l (E.R.head:Nat) (E.R.undone (E.R.head:Nat)) [⟨0,0,[b]⟩]=[]:=by
   rw [cuts,if_pos hck']
   refine cutsF_none _ _ _ (fun p=>?_) _ _ _
   simp only [cutHit,List.any_cons,List.any_nil,Bool.or_false,Bool.and_eq_false_iff,decide_eq_false_iff_not]
   omega
  rw [hct,marked_nil]
  simp only [spotsN,List.map_cons,List.map_nil,hspot,List.zip_cons_cons,List.zip_nil_left,merged,List.take_zero,List.drop_nil,List.nil_append,List.drop_zero,ptsOf,pts_one hcp,Option.getD_some,newAtoms,List.singleton_append]
 have hlv:=Eng.live_head hR
 have htl:∀ (rev:Int) (u:List Int),(atomsText rev u (⟨[b],(E.R.head:Int)+1,g,rank,[]⟩::E.l)).length≤20000:=fun rev u=>by
  have:=atomsText_le (l:=⟨[b],(E.R.head:Int)+1,g,rank,[]⟩::E.l) rev u (by
   intro a ha
   rcases List.mem_cons.1 ha with rfl | ha
   ·exact hcp
   ·exact h.txt a ha)
  simp only [List.length_cons] at this;omega
 rw [editE,if_neg (by simp [hlv]),if_neg (by simp [hck]),hadd,if_neg (by simp),if_neg (by omega),hup,if_neg (by simp only [List.length_cons];omega),if_neg (by simp only [Eng.text];exact Nat.not_lt.2 (htl _ _))]
theorem short_text {l:List Atom} (hl:l.length≤4000) (hc:∀ a∈l,IsCP a.text) (rev:Int) (u:List Int):(atomsText rev u l).length≤20000:=by have:=atomsText_le rev u hc;omega
end Go.Proofs.YtioampofolilnaaGreat.M
namespace Go.Proofs.YtioampofolilnaaGreat.M
open Go Go.Mini
attribute [local congr] go1_congr goM_congr goG_congr goV_congr drawwp_congr Xwp_congr
def letter (j:Nat):UInt8:=UInt8.ofNat (97+j % 26)
theorem letter_nat (j:Nat):(letter j).toNat=97+j % 26:=by simp only [letter,UInt8.toNat_ofNat'];omega
def stepM (E:Eng) (j:Nat) (g:Int):Eng:=⟨⟨[letter j],(j:Int)+1,g.tmod 10,0,[]⟩::E.l,{E.R.push [] with grp:=insS (g.tmod 10) E.R.grp}⟩
structure MInv (E:Eng) (j:Nat):Prop where
 und:E.R.und=List.replicate (j+1) []
 floor:E.R.floor=0
 gone:E.R.gone=[]
 len:E.l.length=j
 rev:∀ a∈E.l,a.rev≤(j:Int)
 grp:∀ g∈E.R.grp,g<10
 bare:∀ a∈E.l,a.cuts=[]∧a.group∈E.R.grp
 ok:E.Ok
 R:E.R.Ok
theorem MInv.head {E:Eng} {j:Nat} (h:MInv E j):E.R.head=j:=by simp [Revs.head,h.floor,h.und]
theorem MInv.top {E:Eng} {j:Nat} (h:MInv E j):E.R.top=[]:=by
 simp only [Revs.top,h.und,List.replicate_succ',List.getLastD_eq_getLast?,List.getLast?_append,List.getLast?_singleton];rfl
theorem MInv.new:MInv Eng.new 0:=⟨rfl,rfl,rfl,rfl,fun a h=>(by cases h),fun a h=>(by cases h),fun a h=>(by cases h),Eng.new_ok,⟨by simp [Eng.new,Revs.new],by simp [Eng.new,Revs.new],by intro s hs;simp [Eng.new,Revs.new] at hs;subst hs;exact Rise.nil,Rise.nil,Rise.nil⟩⟩
theorem tmod10 {g:Int} (h:0≤g):0≤g.tmod 10∧g.tmod 10<10:=by rw [Int.tmod_eq_emod_of_nonneg h];omega
theorem MInv.edit {E:Eng} {j:Nat} (h:MInv E j) (hj:j<100) {g:Int} (hg:0≤g):editE E (E.R.head:Nat) (g.tmod 10) 0 [⟨0,0,[letter j]⟩]=(stepM E j g,(j:Int)+1,0):=by
 obtain ⟨g1,g2⟩:=tmod10 hg
 have hh:=h.head
 have hl:=h.len
 rw [edit_front h.ok h.R (fun a ha=>by rw [hh];exact h.rev a ha) (by rw [letter_nat];omega) g1 (by omega) (by rw [h.gone];simp) (by omega) (by omega) (by omega) (by omega),hh,h.top];rfl
theorem MInv.step {E:Eng} {j:Nat} (h:MInv E j) (hj:j<100) {g:Int} (hg:0≤g):MInv (stepM E j g) (j+1):=by
 obtain ⟨g1,g2⟩:=tmod10 hg
 have hl:=h.len
 have he:=h.edit hj hg
 have hok:=editE_ok h.ok h.R (E.R.head:Nat) (g.tmod 10) 0 [⟨0,0,[letter j]⟩]
 rw [he] at hok
 refine ⟨?_,h.floor,h.gone,by simp only [stepM,List.length_cons];omega,?_,?_,?_,hok,?_⟩
 ·simp only [stepM,Revs.push,h.und];rw [← List.replicate_succ']
 ·intro a ha
  rcases List.mem_cons.1 ha with rfl | ha
  ·simp only;omega
  ·have:=h.rev a ha;omega
 ·intro x hx
  rcases mem_insS.1 hx with rfl | hx
  ·exact g2
  ·exact h.grp x hx
 ·intro a ha
  rcases List.mem_cons.1 ha with rfl | ha
  ·exact ⟨rfl,mem_insS.2 (.inl rfl)⟩
  ·have:=h.bare a ha;exact ⟨this.1,mem_insS.2 (.inr this.2)⟩
 ·refine ⟨by simp [stepM,Revs.push],?_,?_,h.R.grp.ins g1 (by omega),h.R.gone⟩
  ·simp only [stepM,Revs.push,h.und,h.floor,List.length_append,List.length_replicate,List.length_cons,List.length_nil];omega
  ·intro s hs
   simp only [stepM,Revs.push,h.und,List.mem_append,List.mem_replicate,List.mem_singleton] at hs
   rcases hs with ⟨_,rfl⟩ | rfl <;> exact Rise.nil
def togsE (E:Eng):List Int→Eng × Int
 | []=>(E,0)
 | g::l=>if (toggleE E g).2.2≠0 then (E,(toggleE E g).2.2) else togsE (toggleE E g).1 l
def allE (E:Eng) (l:List Int):Eng × Int × Int:=if (togsE E l).2≠0 then (E,0,(togsE E l).2) else ((togsE E l).1,((togsE E l).1.R.head:Nat),0)
theorem Keep.fresh {σ τ ρ:Heap} {fp:List Nat} (h:Keep [] σ τ) (h':Keep fp τ ρ) (hf:∀ x∈fp,σ.next≤x):Keep [] σ ρ:=
 h.trans h' (fun x hx=>.inr (hf x hx))
def held (E:Eng):List Int:=E.R.grp.filter fun x=>!decide (x∈E.R.undone (E.R.head:Nat))
theorem in_call (σ:Heap) (l:List Int) (g:Int) (hl:l.length≤1000000):ACall Tryz.prog n_palinoderef17_In [ints l,.int .i64 g] σ (.bool (decide (g∈l))) σ:=by
 refine bare_call (by simp only [AVal.pures,ints_pure];rfl) rfl (fun W F=>spec_of_awp mixed c_palinoderef17_In (tl rfl) ?_) σ
 unfold f_palinoderef17_In
 simp +decide only [↓evd,evw,evz,reduceCtorEq]
 refine awp_loop (fun m fr τ=>∃ i,m+i=l.length∧fr.get 0=ints l∧fr.get 1= .int .i64 g∧fr.get 5= .int .i64 (i:Nat)∧g∉l.take i∧τ.W=W∧τ.F0=F) ?_ (m:=l.length) ?_
 ·rintro m fr τ ⟨i,hi,e0,e1,e5,ht,hW,hF⟩
  by_cases hlt:i<l.length
  ·have hlt':(i:Int)<(l.length:Int):=by omega
   have hg:=map_get (AVal.int .i64 ·) l i hlt
   have hs:=wrap_succ (i:=i) (by omega)
   have t1:=List.take_succ_eq_append_getElem hlt
   have hm:=List.getElem_mem hlt
   generalize l[i]=x at hg t1 hm
   by_cases hx:x=g
   ·subst hx
    have hb:(x==x)=true:=by simp
    simp +decide only [↓evd,evw,evz,reduceCtorEq,↓reduceIte,e0,e1,e5,hlt',hg,mem_bool hm]
    exact seen rfl hW hF
   ·have hb:(x==g)=false:=by simpa using hx
    simp +decide only [↓evd,evw,evz,reduceCtorEq,↓reduceIte,e0,e1,e5,hlt',hg,hb,hs]
    exact ⟨m - 1,by omega,i+1,by omega,rfl,by rw [t1];simp [ht,Ne.symm hx],hW,hF⟩
  ·have hlt':¬(i:Int)<(l.length:Int):=by omega
   rw [List.take_of_length_le (by omega)] at ht
   simp +decide only [↓evd,evw,evz,reduceCtorEq,↓reduceIte,e0,e5,hlt',not_mem_bool ht]
   exact seen rfl hW hF
 ·refine ⟨0,by omega,?_⟩
  simp +decide only [evw,evz,↓reduceIte]
  simp
end Go.Proofs.YtioampofolilnaaGreat.M
namespace Go.Proofs.YtioampofolilnaaGreat.M
open Go Go.Mini
structure TInv (E:Eng) (l:List Atom) (grp u:List Int) (h:Nat):Prop where
 ls:E.l=l
 sub:∀ x∈u,x∈grp
 grp:E.R.grp=grp
 top:E.R.top=u
 head:E.R.head=h
 few:l.length≤4000
 ok:E.Ok
 R:E.R.Ok
theorem TInv.rise {E:Eng} {l:List Atom} {grp u:List Int} {h:Nat} (t:TInv E l grp u h):Rise u:=by rw [← t.top];exact t.R.top.2.1
theorem TInv.undone {E:Eng} {l:List Atom} {grp u:List Int} {h:Nat} (t:TInv E l grp u h):E.R.undone (E.R.head:Nat)=u:=by rw [t.R.top.1,t.top]
theorem push_ok {R:Revs} (h:R.Ok) {s:List Int} (hs:Rise s) (hh:R.head<200):(R.push s).Ok:=by
 have hl:=List.length_pos_iff.2 h.one
 refine ⟨by simp [Revs.push],?_,?_,h.grp,h.gone⟩
 ·simp only [Revs.push,List.length_append,List.length_cons,List.length_nil];simp only [Revs.head] at hh;omega
 ·intro x hx
  simp only [Revs.push,List.mem_append,List.mem_singleton] at hx
  rcases hx with hx | rfl
  ·exact h.rise x hx
  ·exact hs
theorem TInv.toggle {E:Eng} {l:List Atom} {grp u:List Int} {h:Nat} (t:TInv E l grp u h) {g:Int} (hg:g∈grp) (hh:h<200):
  toggleE E g=(⟨E.l,E.R.push (flip g u)⟩,((h+1:Nat):Int),0)∧TInv ⟨E.l,E.R.push (flip g u)⟩ l grp (flip g u) (h+1):=by
 have hl:=List.length_pos_iff.2 t.R.one
 have ht:toggleR E.R g=(E.R.push (flip g u),((h+1:Nat):Int),0):=by
  have:=toggle_of (R:=E.R) (g:=g) (by rw [t.grp];exact hg) (by rw [t.head];exact hh)
  rw [this,t.top,t.head];rfl
 have hgb:=t.R.grp.2 g (by rw [t.grp];exact hg)
 have hhd:(E.R.push (flip g u)).head=h+1:=by
  rw [← t.head];simp only [Revs.head,Revs.push,List.length_append,List.length_cons,List.length_nil];omega
 refine ⟨?_,t.ls,fun x hx=>?_,t.grp,top_push _ _,hhd,t.few,⟨t.ok.len,t.ok.txt,fun a ha=>?_⟩,push_ok t.R (t.rise.flip hgb.1 hgb.2) (by rw [t.head];exact hh)⟩
 ·rw [toggleE,ht,if_neg (by simp),if_neg]
  simp only [Eng.text]
  exact Nat.not_lt.2 (short_text (by rw [t.ls];exact t.few) t.ok.txt _ _)
 ·have hm:=(mem_flip (g:=g) (x:=x) t.rise).1 hx
  by_cases e:x=g
  ·rw [e];exact hg
  ·rw [if_neg e] at hm;exact t.sub x hm
 ·have h1:=t.ok.cuts a ha
  have h2:=t.head
  simp only [hhd];omega
theorem TInv.toggle_no {E:Eng} {l:List Atom} {grp u:List Int} {h:Nat} (t:TInv E l grp u h) {g:Int} (hg:g∉grp):toggleE E g=(E,0,210):=by
 rw [toggleE,toggle_bad (by rw [t.grp];exact hg),if_pos (by simp)]
def flips (u l:List Int):List Int:=l.foldl (fun u g=>flip g u) u
theorem TInv.togs {grp:List Int} {l:List Atom}:∀ {ks:List Int} {E:Eng} {u:List Int} {h:Nat},TInv E l grp u h→h+ks.length≤200→
  if ∀ g∈ks,g∈grp then (togsE E ks).2=0∧TInv (togsE E ks).1 l grp (flips u ks) (h+ks.length) else (togsE E ks).2=210
 | [],E,u,h,t,_=>by rw [if_pos (by simp)];exact ⟨rfl,t⟩
 | g::ks,E,u,h,t,hl=>by
  simp only [List.length_cons] at hl
  by_cases hg:g∈grp
  ·obtain ⟨h1,h2⟩:=t.toggle hg (by omega)
   have ih:=TInv.togs (ks:=ks) h2 (by omega)
   have e:togsE E (g::ks)=togsE ⟨E.l,E.R.push (flip g u)⟩ ks:=by rw [togsE,h1,if_neg (by simp)]
   rw [e]
   by_cases hk:∀ x∈ks,x∈grp
   ·rw [if_pos hk] at ih
    rw [if_pos (by intro x hx;rcases List.mem_cons.1 hx with rfl | hx;exact hg;exact hk x hx)]
    refine ⟨ih.1,?_⟩
    rw [List.length_cons,show h+(ks.length+1)=h+1+ks.length by omega]
    exact ih.2
   ·rw [if_neg hk] at ih
    rw [if_neg (fun h=>hk fun x hx=>h x (List.mem_cons_of_mem _ hx))]
    exact ih
  ·rw [if_neg (fun h=>hg (h g (by simp))),togsE,t.toggle_no hg,if_pos (by simp)]
theorem TInv.all {E:Eng} {l:List Atom} {grp u:List Int} {h:Nat} (t:TInv E l grp u h) {ks:List Int} (hl:h+ks.length≤200) (hk:∀ g∈ks,g∈grp):
  ∃ E',allE E ks=(E',((h+ks.length:Nat):Int),0)∧TInv E' l grp (flips u ks) (h+ks.length):=by
 have:=t.togs hl
 rw [if_pos hk] at this
 exact ⟨_,by rw [allE,this.1,if_neg (by simp),this.2.head],this.2⟩
end Go.Proofs.YtioampofolilnaaGreat.M
namespace Go.Proofs.YtioampofolilnaaGreat.M
open Go Go.Mini
attribute [local congr] go1_congr goM_congr goG_congr goV_congr drawwp_congr
def Eng.Old (E:Eng):Prop:=∀ a∈E.l,a.rev≤(E.R.head:Nat)∧∀ c∈a.cuts,c.rev≤(E.R.head:Nat)
theorem Eng.new_old:Eng.new.Old:=by intro a ha;cases ha
theorem edit_shape {E E':Eng} {base group rank n:Int} {cs:List Chg} (hR:E.R.Ok) (e:editE E base group rank cs=(E',n,0)):group∉E.R.gone∧0≤group∧group<60∧E.R.head<200∧E.R.live base=true∧check (E.text base) cs=0∧0≤rank∧rank≤1000000∧n=((E.R.head+1:Nat):Int)∧
  E'=⟨upon E.l base (E.R.undone base) cs ((E.R.head+1:Nat):Int) group rank,{E.R.push E.R.top with grp:=insS group E.R.grp}⟩∧E'.R.head=E.R.head+1:=by
 unfold editE at e
 split at e
 ·simp only [Prod.mk.injEq] at e;exact absurd e.2.2 (by decide)
 rename_i h1
 split at e
 ·rename_i h2;simp only [Prod.mk.injEq] at e;exact absurd e.2.2 h2
 rename_i h2
 split at e
 ·rename_i h3;simp only [Prod.mk.injEq] at e;exact absurd e.2.2 h3
 rename_i h3
 split at e
 ·simp only [Prod.mk.injEq] at e;exact absurd e.2.2 (by decide)
 rename_i h4
 split at e
 ·simp only [Prod.mk.injEq] at e;exact absurd e.2.2 (by decide)
 split at e
 ·simp only [Prod.mk.injEq] at e;exact absurd e.2.2 (by decide)
 obtain ⟨q1,q2,q3,q4,e1,e2⟩:=addR_ok (by simpa using h3) hR
 cases e
 exact ⟨q1,q2,q3,q4,by simpa using h1,by simpa using h2,by omega,by omega,by rw [e1];rfl,by rw [e1];rfl,e2⟩
theorem edit_old {E E':Eng} {base group rank n:Int} {cs:List Chg} (hR:E.R.Ok) (hO:E.Old) (e:editE E base group rank cs=(E',n,0)):E'.Old:=by
 obtain ⟨_,_,_,_,_,_,_,_,_,he,hh⟩:=edit_shape hR e
 intro a ha
 rw [hh]
 rw [he] at ha
 rcases mem_upon ha with ⟨b,hb,rfl | rfl⟩ | ⟨b,_,rfl⟩
 ·have:=hO a hb;exact ⟨by omega,fun c hc=>by have:=this.2 c hc;omega⟩
 ·have:=hO b hb
  refine ⟨by simp only;omega,fun c hc=>?_⟩
  simp only [List.mem_append,List.mem_singleton] at hc
  rcases hc with hc | rfl
  ·have:=this.2 c hc;omega
  ·simp only;omega
 ·exact ⟨by simp only;omega,fun c hc=>by cases hc⟩
theorem toggle_shape {E E':Eng} {g n:Int} (hR:E.R.Ok) (e:toggleE E g=(E',n,0)):g∈E.R.grp∧E.R.head<200∧n=((E.R.head+1:Nat):Int)∧E'=⟨E.l,E.R.push (flip g E.R.top)⟩∧E'.R.head=E.R.head+1:=by
 unfold toggleE at e
 split at e
 ·rename_i h2;simp only [Prod.mk.injEq] at e;exact absurd e.2.2 h2
 rename_i h3
 split at e
 ·simp only [Prod.mk.injEq] at e;exact absurd e.2.2 (by decide)
 obtain ⟨q1,q2,e1,e2⟩:=toggleR_ok (by simpa using h3) hR
 cases e
 exact ⟨q1,q2,by rw [e1];rfl,by rw [e1],e2⟩
theorem toggle_old {E E':Eng} {g n:Int} (hR:E.R.Ok) (hO:E.Old) (e:toggleE E g=(E',n,0)):E'.Old:=by
 obtain ⟨_,_,_,he,hh⟩:=toggle_shape hR e
 intro a ha
 rw [he] at ha
 have:=hO a ha
 rw [hh]
 exact ⟨by omega,fun c hc=>by have:=this.2 c hc;omega⟩
structure TwInv (E:Eng) (i:Nat):Prop where
 top:E.R.top=[]
 head:E.R.head≤i
 old:E.Old
 grp:∀ a∈E.l,a.group∈E.R.grp
theorem TwInv.new:TwInv Eng.new 0:=⟨rfl,Nat.le_refl _,Eng.new_old,fun a h=>by cases h⟩
theorem TwInv.mono {E:Eng} {i:Nat} (h:TwInv E i):TwInv E (i+1):=⟨h.top,by have:=h.head;omega,h.old,h.grp⟩
theorem TwInv.edit {E E':Eng} {i:Nat} (h:TwInv E i) (hR:E.R.Ok) {base group rank n c:Int} {cs:List Chg} (e:editE E base group rank cs=(E',n,c)):TwInv E' (i+1):=by
 by_cases hc:c=0
 ·subst hc
  obtain ⟨_,_,_,_,_,_,_,_,_,he,hh⟩:=edit_shape hR e
  refine ⟨?_,by have:=h.head;omega,edit_old hR h.old e,fun a ha=>?_⟩
  ·rw [he];show (E.R.push E.R.top).top=[];rw [top_push,h.top]
  ·rw [he] at ha ⊢
   show a.group∈insS group E.R.grp
   rw [mem_insS]
   rcases mem_upon ha with ⟨b,hb,rfl | rfl⟩ | ⟨b,_,rfl⟩
   ·exact .inr (h.grp a hb)
   ·exact .inr (h.grp b hb)
   ·exact .inl rfl
 ·rw [(edit_fail e hc).1];exact h.mono
end Go.Proofs.YtioampofolilnaaGreat.M
namespace Go.Proofs.YtioampofolilnaaGreat.M
open Go Go.Mini
attribute [local congr] go1_congr goM_congr goG_congr goV_congr drawwp_congr Xwp_congr
def forgetE (E:Eng) (gs:List Int):Eng × Int:=if (forgetR E.R gs).2≠0 then (E,(forgetR E.R gs).2) else (⟨restL gs (E.R.undone (E.R.head:Nat)) E.l,(forgetR E.R gs).1⟩,0)
theorem restA_some {gs u:List Int} {a b:Atom} (h:restA gs u a=some b):b={a with cuts:=a.cuts.filter (fun c=>!goneG gs u c.group),group:=if a.group∈gs then -1 else a.group}∧goneG gs u a.group=false∧(a.cuts.any fun c=>staysG gs u c.group)=false:=by
 unfold restA at h
 split at h
 ·cases h
 ·rename_i hn
  rw [Bool.not_eq_true,Bool.or_eq_false_iff] at hn
  cases h;exact ⟨rfl,hn⟩
theorem forgetR_ok {R:Revs} {gs:List Int} (h:(forgetR R gs).2=0):Good R gs∧forgetR R gs=(⟨[delAll R.top gs],R.head,delAll R.grp gs,goneAll R.gone gs⟩,0)∧(forgetR R gs).1.head=R.head:=by
 by_cases hg:Good R gs
 ·have e:=forget_good hg
  refine ⟨hg,e,?_⟩
  rw [e];simp [Revs.head]
 ·rw [forget_bad hg] at h;cases h
theorem forget_ok {E:Eng} (h:E.Ok) {gs:List Int} (hz:(forgetR E.R gs).2=0):Eng.Ok ⟨restL gs (E.R.undone (E.R.head:Nat)) E.l,(forgetR E.R gs).1⟩:=by
 obtain ⟨_,_,hh⟩:=forgetR_ok hz
 refine ⟨?_,fun b hb=>?_,fun b hb=>?_⟩
 ·have:=restL_len gs (E.R.undone (E.R.head:Nat)) E.l;have:=h.len;simp only;omega
 ·simp only [restL,List.mem_filterMap] at hb
  obtain ⟨a,ha,hb⟩:=hb
  rw [(restA_some hb).1];exact h.txt a ha
 ·simp only [restL,List.mem_filterMap] at hb
  obtain ⟨a,ha,hb⟩:=hb
  rw [(restA_some hb).1]
  have:=h.cuts a ha
  have:=List.length_filter_le (fun c:Cut=>!goneG gs (E.R.undone (E.R.head:Nat)) c.group) a.cuts
  simp only [hh];omega
set_option maxHeartbeats 2000000 in
theorem eforget_at {σ:Heap} {k:Nat} {E E':Eng} {fp:List Nat} {c:Int} (h:IsEng σ k E fp) {gs:List Int} (hl:gs.length≤1000000) (e:forgetE E gs=(E',c)):MSpec Tryz.prog n_engine_Engine_Forget [.ptr (.new k) 0,ints gs] σ fun v τ=>v= .int .i64 c∧∃ fp',IsEng τ k E' fp'∧Keep fp σ τ∧Fresh fp σ fp':=by
 refine spec_of_awp mixed c_engine_Engine_Forget (tl rfl) ?_
 unfold f_engine_Engine_Forget
 have hlow:=h.low
 have hok:=h.ok
 obtain ⟨x,kr,fpr,hA,rfl⟩:=id h
 have hb:=hA.blk
 have hx:=hA.lst.cells.2.2
 have hun:=hA.undone
 have hfits:=hok.1.fits hok.2
 rcases hf:forgetR E.R gs with ⟨R',c'⟩
 have hfo:=forget_at hA.revs hl hf
 simp only [ints] at hun hfo
 simp +decide only [↓evd,evw,evz,reduceCtorEq,↓reduceIte]
 refine MSpec.of hun ?_
 simp +decide only [↓evd,evw,reduceCtorEq,↓reduceIte,hb]
 refine hfo.mono ?_
 rintro v τ ⟨rfl,fpr1,hR1,hK1,hF1⟩
 have hkp:Keep (k::fpr) σ τ:=hK1.mono fun y hy _=>List.mem_cons_of_mem _ hy
 have hbk:τ.get k=some (.cells [x,.ptr (.new kr) 0] none):=by rw [hK1.2.2.2 k hA.low hA.out];exact hb
 have hkf:k∉fpr1:=fun hm=>by
  rcases hF1 k hm with h1 | h1
  ·exact hA.out h1
  ·have:=hA.low;omega
 by_cases hc:c'=0
 ·subst hc
  have hcb:((0:Int) != 0)=false:=rfl
  have hok2:=forget_ok hok.1 (gs:=gs) (by rw [hf])
  rw [hf] at hok2
  rw [forgetE,hf,if_neg (by simp)] at e
  cases e
  have hre:=hA.lst.call (rest_call τ E.l gs (E.R.undone (E.R.head:Nat)) hl (undone_few hok.2 _) hfits.1 hfits.2.1)
  simp only [ints,eAtoms] at hre
  have hkl:k<τ.next:=by have:=hA.low;have:=hK1.2.2.1;omega
  have hT:=IsEng.took (E':=⟨restL gs (E.R.undone (E.R.head:Nat)) E.l,R'⟩) hkl hR1.low (.inl rfl) hR1 hkf hok2
  simp only [eAtoms] at hT
  simp +decide only [↓evd,evw,reduceCtorEq,↓reduceIte,hcb,hbk]
  refine MSpec.of hre ?_
  simp +decide only [↓evd,evw,reduceCtorEq,↓reduceIte,hbk]
  refine ⟨k::fpr1,hT,hkp.set (.inl (by simp)) _,fun y hy=>?_⟩
  rcases List.mem_cons.1 hy with rfl | hy
  ·exact .inl (by simp)
  ·rcases hF1 y hy with h1 | h1
   ·exact .inl (List.mem_cons_of_mem _ h1)
   ·exact .inr h1
 ·have hcb:(c' != 0)=true:=by simpa using hc
  have hRR:R'=E.R:=by
   by_cases hg:Good E.R gs
   ·rw [forget_good hg] at hf;cases hf;exact absurd rfl hc
   ·rw [forget_bad hg] at hf;cases hf;rfl
  subst hRR
  rw [forgetE,hf,if_pos hc] at e
  cases e
  simp +decide only [↓evd,evw,reduceCtorEq,↓reduceIte,hcb]
  refine ⟨k::fpr1,⟨x,kr,fpr1,⟨hbk,hA.lst,hR1,hkf,by have:=hA.low;have:=hK1.2.2.1;omega,hA.ok⟩,rfl⟩,hkp,fun y hy=>?_⟩
  rcases List.mem_cons.1 hy with rfl | hy
  ·exact .inl (by simp)
  ·rcases hF1 y hy with h1 | h1
   ·exact .inl (List.mem_cons_of_mem _ h1)
   ·exact .inr h1
theorem rand31 (b:UInt8):bitOp .and .i64 (b.toNat:Int) 31=((b.toNat % 32:Nat):Int):=fin_byte (p:=fun n=>bitOp .and .i64 (n:Int) 31=((n % 32:Nat):Int)) (by decide +kernel) b
theorem rand15 (b:UInt8):bitOp .and .i64 (b.toNat:Int) 15=((b.toNat % 16:Nat):Int):=fin_byte (p:=fun n=>bitOp .and .i64 (n:Int) 15=((n % 16:Nat):Int)) (by decide +kernel) b
theorem rand7 (b:UInt8):bitOp .and .i64 (b.toNat:Int) 7=((b.toNat % 8:Nat):Int):=fin_byte (p:=fun n=>bitOp .and .i64 (n:Int) 7=((n % 8:Nat):Int)) (by decide +kernel) b
theorem rand63 (b:UInt8):bitOp .and .i64 (b.toNat:Int) 63=((b.toNat % 64:Nat):Int):=fin_byte (p:=fun n=>bitOp .and .i64 (n:Int) 63=((n % 64:Nat):Int)) (by decide +kernel) b
theorem ror6 {x y:Nat} (hx:x<33554432) (hy:y<64):bitOp .or .i64 ((x * 64:Nat):Int) (y:Int)=((x * 64+y:Nat):Int):=by
 have h1:(BitVec.ofInt 64 ((x * 64:Nat):Int)).toNat=x * 64:=by
  rw [BitVec.toNat_ofInt];omega
 have h2:(BitVec.ofInt 64 (y:Int)).toNat=y:=by
  rw [BitVec.toNat_ofInt];omega
 have h3:(BitVec.ofInt 64 ((x * 64:Nat):Int) ||| BitVec.ofInt 64 (y:Int)).toNat=x * 64+y:=by
  rw [BitVec.toNat_or,h1,h2]
  have:=Nat.two_pow_add_eq_or_of_lt (i:=6) (b:=y) (by omega) x
  rw [show 2 ^ 6 * x=x * 64 by omega] at this
  exact this.symm
 simp only [bitOp]
 show IntKind.i64.wrap (((BitVec.ofInt 64 ((x * 64:Nat):Int) ||| BitVec.ofInt 64 (y:Int)).toNat:Nat):Int)=_
 rw [h3,wrap_id (by omega) (by omega)]
theorem rshl6 {x:Nat} (hx:x<33554432):IntKind.i64.wrap ((x:Int) * 2 ^ (min 6 (IntKind.bits .i64)))=((x * 64:Nat):Int):=by
 have e:(2:Int) ^ (min 6 (IntKind.bits .i64))=64:=by decide
 rw [e,show (x:Int) * 64=((x * 64:Nat):Int) by push_cast;rfl,wrap_id (by omega) (by omega)]
theorem rshr6 (x:Nat):(x:Int).fdiv (2 ^ (min 6 (IntKind.bits .i64)))=((x / 64:Nat):Int):=by
 have e:(2:Int) ^ (min 6 (IntKind.bits .i64))=64:=by decide
 rw [e,Int.fdiv_eq_ediv_of_nonneg _ (by decide)];rfl
set_option maxHeartbeats 8000000 in
theorem rsize_call (σ:Heap) (s:List UInt8) (at':Int) (hs:s.length≤maxRoom):ACall Tryz.prog n_palinoderef1_Size [.str s,.int .i64 at'] σ (.int .i64 ((ptAt s at').2:Int)) σ:=by
  refine bare_call rfl rfl (fun W F=>spec_of_awp mixed c_palinoderef1_Size (tl rfl) ?_) σ
  unfold f_palinoderef1_Size
  have hroom:maxRoom=68719476736:=rfl
  by_cases h1:at'<0
  · simp only [↓evd,evu,evf,implies_true,reduceCtorEq,↓reduceIte,Nat.reduceAdd,Nat.reduceLT,evz,h1]
    exact seen (by rw [ptAt,if_pos h1];rfl) rfl rfl
  by_cases h2:(s.length:Int)≤at'
  · simp only [↓evd,evu,evf,implies_true,reduceCtorEq,↓reduceIte,Nat.reduceAdd,Nat.reduceLT,evz,h1,h2]
    refine seen ?_ rfl rfl
    rw [ptAt,if_neg h1,List.drop_eq_nil_of_le (by omega)];rfl
  obtain ⟨i,rfl⟩:∃ i:Nat,at'=(i:Int):=⟨at'.toNat,by omega⟩
  have hi:i<s.length:=by omega
  have h0:(0:Int)≤(i:Int):=by omega
  have hg:s[i]? =some s[i]:=List.getElem?_eq_getElem hi
  have hd:=List.drop_eq_getElem_cons hi
  have hpt:ptAt s (i:Int)=pt (s[i]::s.drop (i+1)):=by rw [ptAt,if_neg h1,Int.toNat_natCast,hd]
  rw [hpt]
  generalize s[i]=a at hg
  have hab:=a.toNat_lt
  have hw:IntKind.i64.wrap (a.toNat:Int)=(a.toNat:Int):=wrap_id (by omega) (by omega)
  have hrl:(s.drop (i+1)).length=s.length - (i+1):=List.length_drop
  by_cases c1:a.toNat<128
  · have c1':(a.toNat:Int)<128:=by omega
    simp only [↓evd,evu,evf,implies_true,reduceCtorEq,↓reduceIte,Nat.reduceAdd,Nat.reduceLT,evz,h1,h2,h0,hg,hw,c1']
    exact seen (by rw [pt,if_pos c1];rfl) rfl rfl
  have c1':¬(a.toNat:Int)<128:=by omega
  by_cases cn:¬(a.toNat / 32=6)∧¬(a.toNat / 16=14)∧¬(a.toNat / 8=30)
  · have e:pt (a::s.drop (i+1))=(0,0):=by rw [pt,if_neg c1,if_neg cn.1,if_neg cn.2.1,if_neg cn.2.2]
    rw [e]
    by_cases d1:(192:Int)≤a.toNat
    · have d2:¬(a.toNat:Int)<224:=by omega
      have d3:(224:Int)≤a.toNat:=by omega
      have d4:¬(a.toNat:Int)<240:=by omega
      have d5:(240:Int)≤a.toNat:=by omega
      have d6:¬(a.toNat:Int)<248:=by omega
      simp only [↓evd,evu,evf,implies_true,reduceCtorEq,↓reduceIte,Nat.reduceAdd,Nat.reduceLT,evz,h1,h2,h0,hg,hw,c1',d1,d2,d3,d4,d5,d6]
      exact seen rfl rfl rfl
    · have d3:¬(224:Int)≤a.toNat:=by omega
      have d5:¬(240:Int)≤a.toNat:=by omega
      simp only [↓evd,evu,evf,implies_true,reduceCtorEq,↓reduceIte,Nat.reduceAdd,Nat.reduceLT,evz,h1,h2,h0,hg,hw,c1',d1,d3,d5]
      exact seen rfl rfl rfl
  obtain ⟨n,v0,least,hpt2,hcase⟩:∃ n v0 least:Nat,pt (a::s.drop (i+1))=ptN v0 n least (s.drop (i+1))∧((a.toNat / 32=6∧n=2∧v0=a.toNat % 32∧least=128)∨(a.toNat / 16=14∧n=3∧v0=a.toNat % 16∧least=2048)∨(a.toNat / 8=30∧n=4∧v0=a.toNat % 8∧least=65536)):=by
    by_cases e1:a.toNat / 32=6
    · exact ⟨2,_,128,by rw [pt,if_neg c1,if_pos e1],.inl ⟨e1,rfl,rfl,rfl⟩⟩
    · by_cases e2:a.toNat / 16=14
      · exact ⟨3,_,2048,by rw [pt,if_neg c1,if_neg e1,if_pos e2],.inr (.inl ⟨e2,rfl,rfl,rfl⟩)⟩
      · have e3:a.toNat / 8=30:=Classical.byContradiction fun e3=>cn ⟨e1,e2,e3⟩
        exact ⟨4,_,65536,by rw [pt,if_neg c1,if_neg e1,if_neg e2,if_pos e3],.inr (.inr ⟨e3,rfl,rfl,rfl⟩)⟩
  rw [hpt2]
  have hn4:2≤n∧n≤4:=by rcases hcase with h | h | h <;> omega
  have hv0:v0<32:=by rcases hcase with h | h | h <;> omega
  have hlw:IntKind.i64.wrap ((s.length:Int) - (i:Int))=(s.length:Int) - (i:Int):=wrap_id (by omega) (by omega)
  rcases hcase with ⟨hc,hn,hv,hle⟩ | ⟨hc,hn,hv,hle⟩ | ⟨hc,hn,hv,hle⟩
  all_goals
    by_cases hsh:(s.length:Int) - (i:Int)<(n:Int)
    · have hcn:ptN v0 n least (s.drop (i+1))=(0,0):=by
        rw [ptN,conts_short (n - 1) v0 _ (by omega)]
      rw [hcn]
      rw [hn] at hsh
      first
        | (have d1:(192:Int)≤a.toNat:=by omega
           have d2:(a.toNat:Int)<224:=by omega
           simp only [↓evd,evu,evf,implies_true,reduceCtorEq,Nat.reduceEqDiff,↓reduceIte,Nat.reduceAdd,Nat.reduceLT,evz,h1,h2,h0,hg,hw,c1',d1,d2,hlw]
           have hsh':(s.length:Int) - (i:Int)<2:=hsh
           simp only [↓evd,evu,evf,implies_true,reduceCtorEq,↓reduceIte,hsh']
           exact seen rfl rfl rfl)
        | (have d1:(192:Int)≤a.toNat:=by omega
           have d2:¬(a.toNat:Int)<224:=by omega
           have d3:(224:Int)≤a.toNat:=by omega
           have d4:(a.toNat:Int)<240:=by omega
           simp only [↓evd,evu,evf,implies_true,reduceCtorEq,Nat.reduceEqDiff,↓reduceIte,Nat.reduceAdd,Nat.reduceLT,evz,h1,h2,h0,hg,hw,c1',d1,d2,d3,d4,hlw]
           have hsh':(s.length:Int) - (i:Int)<3:=hsh
           simp only [↓evd,evu,evf,implies_true,reduceCtorEq,↓reduceIte,hsh']
           exact seen rfl rfl rfl)
        | (have d1:(192:Int)≤a.toNat:=by omega
           have d2:¬(a.toNat:Int)<224:=by omega
           have d3:(224:Int)≤a.toNat:=by omega
           have d4:¬(a.toNat:Int)<240:=by omega
           have d5:(240:Int)≤a.toNat:=by omega
           have d6:(a.toNat:Int)<248:=by omega
           simp only [↓evd,evu,evf,implies_true,reduceCtorEq,Nat.reduceEqDiff,↓reduceIte,Nat.reduceAdd,Nat.reduceLT,evz,h1,h2,h0,hg,hw,c1',d1,d2,d3,d4,d5,d6,hlw]
           have hsh':(s.length:Int) - (i:Int)<4:=hsh
           simp only [↓evd,evu,evf,implies_true,reduceCtorEq,↓reduceIte,hsh']
           exact seen rfl rfl rfl)
    · have hsh':=hsh
      rw [hn] at hsh'
      first
        | (have d1:(192:Int)≤a.toNat:=by omega
           have d2:(a.toNat:Int)<224:=by omega
           have hshn:¬(s.length:Int) - (i:Int)<2:=hsh'
           simp only [↓evd,evu,evf,implies_true,reduceCtorEq,Nat.reduceEqDiff,↓reduceIte,Nat.reduceAdd,Nat.reduceLT,evz,h1,h2,h0,hg,hw,c1',d1,d2,hlw,hshn,rand31])
        | (have d1:(192:Int)≤a.toNat:=by omega
           have d2:¬(a.toNat:Int)<224:=by omega
           have d3:(224:Int)≤a.toNat:=by omega
           have d4:(a.toNat:Int)<240:=by omega
           have hshn:¬(s.length:Int) - (i:Int)<3:=hsh'
           simp only [↓evd,evu,evf,implies_true,reduceCtorEq,Nat.reduceEqDiff,↓reduceIte,Nat.reduceAdd,Nat.reduceLT,evz,h1,h2,h0,hg,hw,c1',d1,d2,d3,d4,hlw,hshn,rand15])
        | (have d1:(192:Int)≤a.toNat:=by omega
           have d2:¬(a.toNat:Int)<224:=by omega
           have d3:(224:Int)≤a.toNat:=by omega
           have d4:¬(a.toNat:Int)<240:=by omega
           have d5:(240:Int)≤a.toNat:=by omega
           have d6:(a.toNat:Int)<248:=by omega
           have hshn:¬(s.length:Int) - (i:Int)<4:=hsh'
           simp only [↓evd,evu,evf,implies_true,reduceCtorEq,Nat.reduceEqDiff,↓reduceIte,Nat.reduceAdd,Nat.reduceLT,evz,h1,h2,h0,hg,hw,c1',d1,d2,d3,d4,d5,d6,hlw,hshn,rand7])
      refine awp_loop (fun m fr τ=>∃ j x:Nat,m+j=n∧1≤j∧j≤n∧fr.get 0= .str s∧fr.get 1= .int .i64 (i:Int)∧fr.get 6= .int .i64 (n:Int)∧fr.get 8= .int .i64 (least:Int)∧fr.get 7= .int .i64 (x:Int)∧fr.get 9= .int .i64 (j:Int)∧x<32 * 64 ^ (j - 1)∧conts x (n - j) (s.drop (i+j))=conts v0 (n - 1) (s.drop (i+1))∧τ.W=W∧τ.F0=F) ?_ (m:=n - 1) ?_
      · rintro m fr τ ⟨j,x,hm,hj1,hj2,e0,e1,e6,e8,e7,e9,hx,hcc,hW,hF⟩
        have hx25:x<33554432:=by
          have h3:j - 1≤3:=by omega
          have:=Nat.pow_le_pow_right (n:=64) (by omega) h3
          have:(64:Nat) ^ 3=262144:=by decide
          omega
        by_cases hlt:j<n
        · have hlt':(j:Int)<(n:Int):=by omega
          have hai:i+j<s.length:=by omega
          have hw2:IntKind.i64.wrap ((i:Int)+(j:Int))=((i+j:Nat):Int):=by rw [wrap_id (by omega) (by omega)];omega
          have h0j:(0:Int)≤((i+j:Nat):Int):=by omega
          have hgi:s[i+j]? =some s[i+j]:=List.getElem?_eq_getElem hai
          have hwj:=wrap_succ (i:=j) (by omega)
          obtain ⟨k,hk⟩:∃ k,n - j=k+1:=⟨n - j - 1,by omega⟩
          rw [List.drop_eq_getElem_cons hai,hk,conts] at hcc
          generalize s[i+j]=b at hgi hcc
          have hbb:=b.toNat_lt
          have hwb:IntKind.i64.wrap (b.toNat:Int)=(b.toNat:Int):=wrap_id (by omega) (by omega)
          by_cases hb:b.toNat / 64=2
          · rw [if_pos hb] at hcc
            have hbn:(((b.toNat / 64:Nat):Int) != 2)=false:=by rw [hb];rfl
            have hor:=ror6 (x:=x) (y:=b.toNat % 64) hx25 (by omega)
            simp only [↓evd,evu,evf,implies_true,reduceCtorEq,Nat.reduceEqDiff,↓reduceIte,Nat.reduceLT,Int.reduceLT,Int.reduceToNat,evz,e0,e1,e6,e8,e7,e9,hlt',hw2,h0j,hgi,hwb,rshr6,hbn,rshl6 hx25,rand63,hor,hwj]
            refine ⟨m - 1,by omega,j+1,x * 64+b.toNat % 64,by omega,by omega,by omega,rfl,rfl,?_,?_,hW,hF⟩
            · rw [Nat.add_sub_cancel]
              obtain ⟨q,rfl⟩:∃ q,j=q+1:=⟨j - 1,by omega⟩
              rw [Nat.add_sub_cancel] at hx
              rw [Nat.pow_succ];omega
            · rw [← hcc,show n - (j+1)=k by omega,show i+(j+1)=i+j+1 by omega]
          · rw [if_neg hb] at hcc
            have hbn:(((b.toNat / 64:Nat):Int) != 2)=true:=by
              rw [bne_iff_ne];intro h;apply hb;omega
            simp only [↓evd,evu,evf,implies_true,reduceCtorEq,↓reduceIte,Nat.reduceLT,Int.reduceLT,Int.reduceToNat,evz,e0,e1,e6,e9,hlt',hw2,h0j,hgi,hwb,rshr6,hbn]
            exact seen (by rw [ptN,← hcc];rfl) hW hF
        · have hlt':¬(j:Int)<(n:Int):=by omega
          have hjn:n - j=0:=by omega
          rw [hjn,conts] at hcc
          have hp:ptN v0 n least (s.drop (i+1))=if (decide (x<least) || !isPt x)=true then (0,0) else (x,n):=by rw [ptN,← hcc]
          rw [hp]
          by_cases q1:x<least
          · have q1':(x:Int)<(least:Int):=by omega
            simp only [↓evd,evu,evf,implies_true,reduceCtorEq,↓reduceIte,Nat.reduceLT,evz,e6,e8,e7,e9,hlt',q1']
            exact seen (by simp [q1]) hW hF
          have q1':¬(x:Int)<(least:Int):=by omega
          by_cases q2:(1114111:Int)<(x:Int)
          · simp only [↓evd,evu,evf,implies_true,reduceCtorEq,↓reduceIte,Nat.reduceLT,evz,e6,e8,e7,e9,hlt',q1',q2]
            have:isPt x=false:=by simp only [isPt];rw [decide_eq_false (by omega)];rfl
            exact seen (by simp [q1,this]) hW hF
          by_cases q3:(55296:Int)≤(x:Int)
          · by_cases q4:(x:Int)<57344
            · simp only [↓evd,evu,evf,implies_true,reduceCtorEq,↓reduceIte,Nat.reduceLT,evz,e6,e8,e7,e9,hlt',q1',q2,q3,q4]
              have:isPt x=false:=by simp only [isPt];rw [decide_eq_false (show ¬x<55296 by omega),decide_eq_false (show ¬57343<x by omega)];simp
              exact seen (by simp [q1,this]) hW hF
            · simp only [↓evd,evu,evf,implies_true,reduceCtorEq,↓reduceIte,Nat.reduceLT,evz,e6,e8,e7,e9,hlt',q1',q2,q3,q4]
              have:isPt x=true:=by simp only [isPt];rw [decide_eq_true (show x≤1114111 by omega),decide_eq_true (show 57343<x by omega)];simp
              exact seen (by simp [q1,this]) hW hF
          · simp only [↓evd,evu,evf,implies_true,reduceCtorEq,↓reduceIte,Nat.reduceLT,evz,e6,e8,e7,e9,hlt',q1',q2,q3]
            have:isPt x=true:=by simp only [isPt];rw [decide_eq_true (show x≤1114111 by omega),decide_eq_true (show x<55296 by omega)];simp
            exact seen (by simp [q1,this]) hW hF
      · refine ⟨1,v0,by omega,Nat.le_refl _,by omega,?_⟩
        simp only [evu,reduceCtorEq,↓reduceIte,Nat.reduceLT,evz,hn,hv,hle]
        first | done | simpa using hv0 | (simp;omega)
end Go.Proofs.YtioampofolilnaaGreat.M
namespace Go.Proofs.YtioampofolilnaaGreat.M
open Go Go.Mini
attribute [local congr] go1_congr goM_congr goG_congr goV_congr drawwp_congr Xwp_congr
set_option maxHeartbeats 1000000 in
theorem rvalid_call (σ:Heap) (s:List UInt8) (hs:s.length≤maxRoom):ACall Tryz.prog n_palinoderef1_Valid [.str s] σ (.bool (valid s)) σ:=by
 refine bare_call rfl rfl (fun W F=>spec_of_awp mixed c_palinoderef1_Valid (tl rfl) ?_) σ
 unfold f_palinoderef1_Valid
 have hroom:maxRoom=68719476736:=rfl
 simp only [↓evd,evu,evf,implies_true,reduceCtorEq]
 refine awp_loop (fun m fr τ=>∃ i,m+i=s.length∧fr.get 0= .str s∧fr.get 3= .int .i64 (i:Nat)∧τ=⟨W,F,.nil,0⟩∧valid (s.drop i)=valid s) ?_ (m:=s.length) ?_
 ·rintro m fr τ ⟨i,hi,e0,e3,rfl,hv⟩
  by_cases hlt:i<s.length
  ·have hlt':(i:Int)<(s.length:Int):=by omega
   have hne:s.drop i≠[]:=by intro h;have:=congrArg List.length h;simp at this;omega
   have hle:=pt_le (s.drop i)
   rw [List.length_drop] at hle
   rw [valid_step hne] at hv
   have hpa:ptAt s (i:Int)=pt (s.drop i):=by simp only [ptAt];rw [if_neg (by omega),Int.toNat_natCast]
   simp only [↓evd,evu,evf,implies_true,reduceCtorEq,↓reduceIte,Nat.reduceLT,evz,e0,e3,hlt']
   refine MSpec.of (rsize_call _ s i hs) ?_
   rw [hpa]
   by_cases hz:(pt (s.drop i)).2=0
   ·have hb:(((pt (s.drop i)).2:Int)==0)=true:=by rw [hz];rfl
    rw [if_pos hz] at hv
    simp only [↓evd,evu,evf,implies_true,reduceCtorEq,↓reduceIte,hb]
    exact seen (by rw [← hv]) rfl rfl
   ·have hb:(((pt (s.drop i)).2:Int)==0)=false:=by rw [beq_eq_false_iff_ne];omega
    rw [if_neg hz,List.drop_drop] at hv
    have hw:IntKind.i64.wrap ((i:Int)+((pt (s.drop i)).2:Int))=((i+(pt (s.drop i)).2:Nat):Int):=by rw [wrap_id (by omega) (by omega)];omega
    simp only [↓evd,evu,evf,implies_true,reduceCtorEq,↓reduceIte,Nat.reduceLT,evz,hb,e0,e3,hw]
    exact ⟨m - (pt (s.drop i)).2,by omega,i+(pt (s.drop i)).2,by omega,rfl,hv⟩
  ·have hlt':¬(i:Int)<(s.length:Int):=by omega
   rw [List.drop_eq_nil_of_le (by omega)] at hv
   simp only [↓evd,evu,evf,implies_true,reduceCtorEq,↓reduceIte,Nat.reduceLT,evz,e0,e3,hlt']
   exact seen (by rw [← hv];rfl) rfl rfl
 ·exact ⟨0,by omega,by first | (simp only [evu,↓reduceIte,Nat.reduceLT,evz];done) | (simp only [↓evd,evu,evf,implies_true,reduceCtorEq,Nat.reduceEqDiff,↓reduceIte,Nat.reduceAdd,Nat.reduceLeDiff,Nat.reduceLT,Nat.reduceMul,Int.reduceLT,Int.reduceLE,Int.reduceToNat,evz];first | rfl | (repeat' apply And.intro) <;> rfl)⟩
set_option maxHeartbeats 1000000 in
theorem risEdge_call (σ:Heap) (s:List UInt8) (i:Int) (hs:s.length≤maxRoom):ACall Tryz.prog n_palinoderef1_IsEdge [.str s,.int .i64 i] σ (.bool (isEdge s i)) σ:=by
 refine bare_call rfl rfl (fun W F=>spec_of_awp mixed c_palinoderef1_IsEdge (tl rfl) ?_) σ
 unfold f_palinoderef1_IsEdge
 by_cases h1:i<0
 ·simp only [↓evd,evu,evf,implies_true,reduceCtorEq,↓reduceIte,Nat.reduceAdd,Nat.reduceLT,evz,h1]
  exact seen (by simp only [isEdge,decide_eq_false (show ¬0≤i by omega)];simp) rfl rfl
 by_cases h2:(s.length:Int)<i
 ·simp only [↓evd,evu,evf,implies_true,reduceCtorEq,↓reduceIte,Nat.reduceAdd,Nat.reduceLT,evz,h1,h2]
  exact seen (by simp only [isEdge,decide_eq_false (show ¬i≤(s.length:Int) by omega)];simp) rfl rfl
 have h1':0≤i:=by omega
 have h2':i≤(s.length:Int):=by omega
 simp only [↓evd,evu,evf,implies_true,reduceCtorEq,↓reduceIte,Nat.reduceAdd,Nat.reduceLT,evz,h1,h2]
 refine MSpec.of (rvalid_call _ s hs) ?_
 cases hv:valid s with
 | false=>
  simp only [↓evd,evu,evf,implies_true,reduceCtorEq,↓reduceIte,Nat.reduceLT,evz]
  exact seen (by simp only [isEdge,hv,Bool.and_false]) rfl rfl
 | true=>
  by_cases h3:i=(s.length:Int)
  ·have hb:(i==(s.length:Int))=true:=by simpa using h3
   simp only [↓evd,evu,evf,implies_true,reduceCtorEq,↓reduceIte,Nat.reduceLT,evz,hb]
   exact seen (by simp only [isEdge,decide_eq_true h1',decide_eq_true h2',decide_eq_true h3,hv];rfl) rfl rfl
  ·have hb:(i==(s.length:Int))=false:=by simpa using h3
   have hlt:i.toNat<s.length:=by omega
   have hg:s[i.toNat]? =some s[i.toNat]:=List.getElem?_eq_getElem hlt
   have hw:IntKind.i64.wrap (s[i.toNat].toNat:Int)=(s[i.toNat].toNat:Int):=wrap_id (by omega) (by have:=s[i.toNat].toNat_lt;omega)
   by_cases hc:s[i.toNat].toNat / 64=2
   ·have hb':(((s[i.toNat].toNat / 64:Nat):Int) != 2)=false:=by rw [hc];rfl
    simp only [↓evd,evu,evf,implies_true,reduceCtorEq,↓reduceIte,Nat.reduceLT,Int.reduceLT,Int.reduceToNat,evz,hb,h1',hg,hw,rshr6,hb']
    refine seen ?_ rfl rfl
    simp only [isEdge,decide_eq_false h3,hg,decide_eq_true hc];simp
   ·have hb':(((s[i.toNat].toNat / 64:Nat):Int) != 2)=true:=by
     rw [bne_iff_ne];intro h;apply hc;omega
    simp only [↓evd,evu,evf,implies_true,reduceCtorEq,↓reduceIte,Nat.reduceLT,Int.reduceLT,Int.reduceToNat,evz,hb,h1',hg,hw,rshr6,hb']
    refine seen ?_ rfl rfl
    simp only [isEdge,decide_eq_true h1',decide_eq_true h2',decide_eq_false h3,hg,decide_eq_false hc,hv];rfl
end Go.Proofs.YtioampofolilnaaGreat.M
namespace Go.Proofs.YtioampofolilnaaGreat.M
open Go Go.Mini
attribute [local congr] go1_congr goM_congr goG_congr goV_congr drawwp_congr Xwp_congr
set_option maxHeartbeats 2000000 in
theorem rorder_call (σ:Heap) (l:List Chg) (hl:l.length≤1000000):ACall Tryz.prog n_palinoderef11_Ordered [eChgs l] σ (.bool (!disorder l)) σ:=by
 refine gc_call rfl (spec_of_awp mixed c_palinoderef11_Ordered (tl rfl) ?_)
 unfold f_palinoderef11_Ordered
 simp +decide only [↓evd,evw,evz,reduceCtorEq]
 refine awp_loop (fun m fr τ=>∃ i,m+i=l.length+1∧1≤i∧fr.get 0=eChgs l∧fr.get 3= .int .i64 (i:Nat)∧disorder (l.drop (i - 1))=disorder l∧Keep [] σ τ) ?_ (m:=l.length) ?_
 ·rintro m fr τ ⟨i,hi,h1,e0,e3,hs,hK⟩
  by_cases hlt:i<l.length
  ·have hlt':(i:Int)<(l.length:Int):=by omega
   have hw:=wrap_succ (i:=i) (by omega)
   have hwm:IntKind.i64.wrap ((i:Int) - 1)=((i - 1:Nat):Int):=by rw [wrap_id (by omega) (by omega)];omega
   have hg:=map_get eChg l i hlt
   have hg1:=map_get eChg l (i - 1) (by omega)
   rw [List.drop_eq_getElem_cons (show i - 1<l.length by omega),show i - 1+1=i by omega,List.drop_eq_getElem_cons hlt,disorder] at hs
   have hs2:disorder (l[i]::l.drop (i+1))=disorder (l.drop i):=by rw [← List.drop_eq_getElem_cons hlt]
   rw [hs2] at hs
   generalize l[i]=y at hg hs
   generalize l[i - 1]=x at hg1 hs
   simp +decide only [↓evd,evw,evz,reduceCtorEq,↓reduceIte,e0,e3,hlt']
   with_reducible refine draw_of_grow (fun _=>False) (ms:=[false,false,false,false,false,false,false,false,false,true,true,false,true]) (by kernel_rfl) ?_
   have ne1:(τ.next+1=τ.next)=False:=eq_false (by omega)
   have ne2:(τ.next=τ.next+1)=False:=eq_false (by omega)
   have hK2:Keep [] σ ((((τ.new (.cells [.int .i64 0,.int .i64 0,.str []] none)).new (.cells [.int .i64 0,.int .i64 0,.str []] none)).set τ.next (.cells [.int .i64 x.frm,.int .i64 x.to,.str x.text] none)).set (τ.next+1) (.cells [.int .i64 y.frm,.int .i64 y.to,.str y.text] none)):=
    (((hK.new _).new _).set (.inr hK.2.2.1) _).set (.inr (Nat.le_succ_of_le hK.2.2.1)) _
   have hbad:chgBad x y=true→AVal.bool false=AVal.bool !disorder l:=fun h=>by rw [← hs,h];rfl
   have hfin:∀ k,k<σ.next→((((τ.new (.cells [.int .i64 0,.int .i64 0,.str []] none)).new (.cells [.int .i64 0,.int .i64 0,.str []] none)).set τ.next (.cells [.int .i64 x.frm,.int .i64 x.to,.str x.text] none)).set (τ.next+1) (.cells [.int .i64 y.frm,.int .i64 y.to,.str y.text] none)).get k=σ.get k:=fun k hk=>hK2.get hk
   simp +decide only [evw] at hfin
   simp +decide only [↓evd,evw,evz,reduceCtorEq,↓reduceIte,e0,e3,hwm,hg,hg1,Nat.add_zero,ne1]
   refine ⟨.inr ⟨rfl,fun _ h=>h.elim⟩,?_⟩
   by_cases c1:y.frm<x.to
   ·have:=hbad (by simp [chgBad,c1])
    simp +decide only [↓evd,evw,reduceCtorEq,↓reduceIte,Nat.add_zero,ne1,ne2,c1]
    exact ⟨this,hK.1,hK.2.1,hfin⟩
   by_cases c2:x.frm=y.frm
   ·have b2:(y.frm==x.frm)=true:=by simpa using c2.symm
    by_cases c3:x.frm=x.to
    ·have b3:(x.frm==x.to)=true:=by simpa using c3
     have:=hbad (by simp only [chgBad,Bool.or_eq_true,Bool.and_eq_true,decide_eq_true_eq];exact .inr ⟨c2,by omega⟩)
     simp +decide only [↓evd,evw,reduceCtorEq,↓reduceIte,Nat.add_zero,ne1,ne2,c1,b2,b3]
     exact ⟨this,hK.1,hK.2.1,hfin⟩
    ·have b3:(x.frm==x.to)=false:=by simpa using c3
     have hb:chgBad x y=false:=by simp only [chgBad,Bool.or_eq_false_iff,Bool.and_eq_false_iff,decide_eq_false_iff_not];exact ⟨c1,.inr (by omega)⟩
     rw [hb,Bool.false_or] at hs
     simp +decide only [↓evd,evw,evz,reduceCtorEq,↓reduceIte,e0,e3,Nat.add_zero,ne1,ne2,c1,b2,b3,hw]
     exact ⟨m - 1,by omega,i+1,by omega,by omega,rfl,hs,hK2⟩
   ·have b2:(y.frm==x.frm)=false:=by simpa using Ne.symm c2
    have hb:chgBad x y=false:=by simp [chgBad,c1,c2]
    rw [hb,Bool.false_or] at hs
    simp +decide only [↓evd,evw,evz,reduceCtorEq,↓reduceIte,e0,e3,Nat.add_zero,ne1,ne2,c1,b2,hw]
    exact ⟨m - 1,by omega,i+1,by omega,by omega,rfl,hs,hK2⟩
  ·have hlt':¬(i:Int)<(l.length:Int):=by omega
   have hd:disorder (l.drop (i - 1))=false:=by
    have:(l.drop (i - 1)).length≤1:=by simp;omega
    match l.drop (i - 1),this with
    | [],_=>rfl
    | [_],_=>rfl
   rw [hd] at hs
   simp +decide only [↓evd,evw,evz,reduceCtorEq,↓reduceIte,e0,e3,hlt']
   rw [← hs]
   exact ⟨rfl,hK.1,hK.2.1,fun k hk=>hK.get hk⟩
 ·refine ⟨1,by omega,Nat.le_refl _,?_⟩
  simp +decide only [evw,evz,↓reduceIte]
  exact ⟨rfl,Keep.refl _ _⟩
end Go.Proofs.YtioampofolilnaaGreat.M
namespace Go.Proofs.YtioampofolilnaaGreat.M
open Go Go.Mini
attribute [local congr] go1_congr goM_congr goG_congr goV_congr drawwp_congr Xwp_congr
theorem check_out {s:List UInt8} {l:List Chg} (hv:valid s=true) (h8:l.length≤8) (h:l.any (chgOut s)=true):check s l=10:=by
 unfold check;rw [if_neg (by rw [hv];simp),if_neg (by omega)];simp only [errs,h];rfl
theorem check_in {s:List UInt8} {l:List Chg} (hv:valid s=true) (h8:l.length≤8) (h1:l.any (chgOut s)=false) (h:l.any (chgIn s)=true):check s l=11:=by
 unfold check;rw [if_neg (by rw [hv];simp),if_neg (by omega)];simp only [errs,h1,h];rfl
theorem check_dis {s:List UInt8} {l:List Chg} (hv:valid s=true) (h8:l.length≤8) (h1:l.any (chgOut s)=false) (h2:l.any (chgIn s)=false) (h:disorder l=true):check s l=180:=by
 unfold check;rw [if_neg (by rw [hv];simp),if_neg (by omega)];simp only [errs,h1,h2,h];rfl
theorem check_form {s:List UInt8} {l:List Chg} (hv:valid s=true) (h8:l.length≤8) (h1:l.any (chgOut s)=false) (h2:l.any (chgIn s)=false) (h3:disorder l=false) (h:l.any (fun c=>!valid c.text)=true):check s l=12:=by
 unfold check;rw [if_neg (by rw [hv];simp),if_neg (by omega)];simp only [errs,h1,h2,h3,h];rfl
theorem longR_two (l:List Chg) (r:Int):longR l r=0∨longR l r=13:=by
 induction l generalizing r with
 | nil=>simp only [longR];split <;> simp
 | cons c l ih=>simp only [longR];split <;> simp [ih]
theorem check_long {s:List UInt8} {l:List Chg} (hv:valid s=true) (h8:l.length≤8) (h1:l.any (chgOut s)=false) (h2:l.any (chgIn s)=false) (h3:disorder l=false) (h4:l.any (fun c=>!valid c.text)=false):check s l=longI s l:=by
 unfold check;rw [if_neg (by rw [hv];simp),if_neg (by omega)];simp only [errs,h1,h2,h3,h4]
 rcases longR_two l (20000 - s.length+gains s.length l) with h | h <;> simp only [longI,h] <;> rfl
def spans (l:List Chg):Int:=(l.map fun c=>c.to - c.frm).sum
theorem gains_spans {s:List UInt8} (hs:s.length≤maxRoom):∀ {l:List Chg},l.any (chgOut s)=false→gains s.length l=spans l
 | [],_=>rfl
 | c::l,h=>by
  have hroom:maxRoom=68719476736:=rfl
  simp only [List.any_cons,Bool.or_eq_false_iff] at h
  have ih:=gains_spans hs h.2
  have h1:=h.1
  simp only [chgOut,Bool.or_eq_false_iff,decide_eq_false_iff_not] at h1
  have hg:gain s.length c=c.to - c.frm:=by
   have hw:IntKind.i64.wrap (c.to - c.frm)=c.to - c.frm:=wrap_id (by omega) (by omega)
   simp only [gain,gain0,hw]
   rw [if_neg (show ¬c.to - c.frm<0 by omega),if_neg (by omega)]
  simp only [gains,spans,List.map_cons,List.sum_cons] at ih ⊢
  rw [hg,ih]
theorem spans_le {s:List UInt8}:∀ {l:List Chg},l.any (chgOut s)=false→0≤spans l∧spans l≤l.length * s.length
 | [],_=>by simp [spans]
 | c::l,h=>by
  simp only [List.any_cons,Bool.or_eq_false_iff] at h
  have ih:=spans_le h.2
  have h1:=h.1
  simp only [chgOut,Bool.or_eq_false_iff,decide_eq_false_iff_not] at h1
  simp only [spans,List.map_cons,List.sum_cons,List.length_cons] at ih ⊢
  rw [show ((l.length+1:Nat):Int) * (s.length:Int)=(l.length:Int) * s.length+s.length by push_cast;rw [Int.add_mul,Int.one_mul]]
  omega
theorem spans_take {l:List Chg} {i:Nat} (h:i<l.length):spans (l.take (i+1))=spans (l.take i)+(l[i].to - l[i].frm):=by
 simp only [spans,List.take_succ_eq_append_getElem h,List.map_append,List.sum_append,List.map_cons,List.map_nil,List.sum_cons,List.sum_nil];omega
theorem any_take {p:Chg→Bool} {l:List Chg} {i:Nat} (h:i<l.length):(l.take (i+1)).any p=((l.take i).any p || p l[i]):=by
 rw [List.take_succ_eq_append_getElem h,List.any_append];simp
theorem any_mem {p:Chg→Bool} {l:List Chg} {c:Chg} (hc:c∈l) (h:p c=true):l.any p=true:=List.any_eq_true.2 ⟨c,hc,h⟩
theorem any_sub {p:Chg→Bool} {l:List Chg} (h:l.any p=false) (i:Nat):(l.take i).any p=false:=by
 rw [List.any_eq_false] at h ⊢
 exact fun c hc=>h c (List.mem_of_mem_take hc)
set_option maxHeartbeats 8000000 in
theorem rcheck_call (σ:Heap) (s:List UInt8) (l:List Chg) (hs:s.length≤maxRoom) (hl:l.length≤9223372036854775807) (hc:∀ c∈l,ChgFits c):ACall Tryz.prog n_palinoderef17_Check [.str s,eChgs l] σ (.int .i64 (check s l)) σ:=by
 refine bare_call (by simp only [AVal.pures,eChgs_pure];rfl) rfl (fun W F=>spec_of_awp mixed c_palinoderef17_Check (tl rfl) ?_) σ
 unfold f_palinoderef17_Check
 have hroom:maxRoom=68719476736:=rfl
 simp only [↓evd,evu,evf,implies_true,reduceCtorEq,↓reduceIte,Nat.reduceAdd,Nat.reduceLT,evz]
 refine MSpec.of (rvalid_call _ s hs) ?_
 cases hv:valid s with
 | false=>
  simp only [↓evd,evu,evf,implies_true,reduceCtorEq,↓reduceIte]
  exact seen (by rw [check,if_pos hv]) rfl rfl
 | true=>
 by_cases h8:(8:Int)<(l.length:Int)
 ·simp only [↓evd,evu,evf,implies_true,reduceCtorEq,↓reduceIte,Nat.reduceLT,evz,h8]
  exact seen (by rw [check,if_neg (by rw [hv];simp),if_pos (by omega)]) rfl rfl
 have h8':l.length≤8:=by omega
 simp only [↓evd,evu,evf,implies_true,reduceCtorEq,↓reduceIte,Nat.reduceLT,evz,h8]
 refine awp_loop (fun m fr τ=>∃ i,m+i=l.length∧fr.get 0= .str s∧fr.get 1=eChgs l∧fr.get 5= .int .i64 (i:Nat)∧(l.take i).any (chgOut s)=false∧τ=⟨W,F,.nil,0⟩) ?_ (m:=l.length) ?_
 ·rintro m fr τ ⟨i,hi,e0,e1,e5,ha,rfl⟩
  by_cases hlt:i<l.length
  ·have hlt':(i:Int)<(l.length:Int):=by omega
   have hw:=wrap_succ (i:=i) (by omega)
   have hg:=map_get eChg l i hlt
   have hat:=any_take (p:=chgOut s) hlt
   have hm:=List.getElem_mem hlt
   generalize l[i]=c at hg hat hm
   simp only [↓evd,evu,evf,implies_true,reduceCtorEq,↓reduceIte,Nat.reduceLT,evz,e1,e5,hlt']
   with_reducible refine draw_of_grow (fun _=>True) (ms:=[false,false,false,false,false,false,false,false,false,false,false,false,false,false,false,false,false,false,false,false,false,false,false,false,false,false,false,false,false]) (by kernel_rfl) ?_
   by_cases c1:c.frm<0
   ·simp only [↓evd,evu,evf,implies_true,reduceCtorEq,↓reduceIte,Nat.reduceLT,evz,e1,e5,hg,c1]
    exact seen (by rw [check_out hv h8' (any_mem hm (by simp [chgOut,c1]))]) rfl rfl
   by_cases c2:c.to<c.frm
   ·simp only [↓evd,evu,evf,implies_true,reduceCtorEq,↓reduceIte,Nat.reduceLT,evz,e1,e5,hg,c1,c2]
    exact seen (by rw [check_out hv h8' (any_mem hm (by simp [chgOut,c2]))]) rfl rfl
   by_cases c3:(s.length:Int)<c.to
   ·simp only [↓evd,evu,evf,implies_true,reduceCtorEq,↓reduceIte,Nat.reduceLT,evz,e0,e1,e5,hg,c1,c2,c3]
    exact seen (by rw [check_out hv h8' (any_mem hm (by simp [chgOut,c3]))]) rfl rfl
   simp only [↓evd,evu,evf,implies_true,reduceCtorEq,↓reduceIte,Nat.reduceLT,evz,e0,e1,e5,hg,c1,c2,c3,hw]
   refine ⟨m - 1,by omega,i+1,by omega,rfl,?_⟩
   rw [hat,ha];simp [chgOut,c1,c2,c3]
  ·have hlt':¬(i:Int)<(l.length:Int):=by omega
   rw [List.take_of_length_le (by omega)] at ha
   have ho:=ha
   simp only [↓evd,evu,evf,implies_true,reduceCtorEq,↓reduceIte,Nat.reduceLT,evz,e1,e5,hlt']
   refine awp_loop (fun m fr τ=>∃ i,m+i=l.length∧fr.get 0= .str s∧fr.get 1=eChgs l∧fr.get 6= .int .i64 (i:Nat)∧(l.take i).any (chgIn s)=false∧τ=⟨W,F,.nil,0⟩) ?_ (m:=l.length) ?_
   ·clear e0 e1 e5 hlt hlt' hi ha
    rintro m fr τ ⟨i,hi,e0,e1,e6,ha,rfl⟩
    by_cases hlt:i<l.length
    ·have hlt':(i:Int)<(l.length:Int):=by omega
     have hw:=wrap_succ (i:=i) (by omega)
     have hg:=map_get eChg l i hlt
     have hat:=any_take (p:=chgIn s) hlt
     have hm:=List.getElem_mem hlt
     generalize l[i]=c at hg hat hm
     have q1:=risEdge_call ⟨W,F,.nil,0⟩ s c.frm hs
     have q2:=risEdge_call ⟨W,F,.nil,0⟩ s c.to hs
     simp only [↓evd,evu,evf,implies_true,reduceCtorEq,↓reduceIte,Nat.reduceLT,evz,e0,e1,e6,hlt',hg]
     refine MSpec.of q1 ?_
     cases b1:isEdge s c.frm with
     | false=>
      simp only [↓evd,evu,evf,implies_true,reduceCtorEq,↓reduceIte,Nat.reduceLT,evz]
      exact seen (by rw [check_in hv h8' ho (any_mem hm (by simp [chgIn,b1]))]) rfl rfl
     | true=>
      simp only [↓evd,evu,evf,implies_true,reduceCtorEq,↓reduceIte,Nat.reduceLT,evz,e0,e1,e6,hg]
      refine MSpec.of q2 ?_
      cases b2:isEdge s c.to with
      | false=>
       simp only [↓evd,evu,evf,implies_true,reduceCtorEq,↓reduceIte,Nat.reduceLT,evz]
       exact seen (by rw [check_in hv h8' ho (any_mem hm (by simp [chgIn,b2]))]) rfl rfl
      | true=>
       simp only [↓evd,evu,evf,implies_true,reduceCtorEq,↓reduceIte,Nat.reduceLT,evz,e0,e1,e6,hw]
       refine ⟨m - 1,by omega,i+1,by omega,rfl,?_⟩
       rw [hat,ha];simp [chgIn,b1,b2]
    ·have hlt':¬(i:Int)<(l.length:Int):=by omega
     rw [List.take_of_length_le (by omega)] at ha
     have hin:=ha
     have q:=rorder_call ⟨W,F,.nil,0⟩ l (by omega)
     simp only [eChgs] at q
     simp only [↓evd,evu,evf,implies_true,reduceCtorEq,↓reduceIte,Nat.reduceLT,evz,e1,e6,hlt']
     refine MSpec.of q ?_
     cases hdis:disorder l with
     | true=>
      simp only [↓evd,evu,evf,implies_true,reduceCtorEq,↓reduceIte]
      exact seen (by rw [check_dis hv h8' ho hin hdis]) rfl rfl
     | false=>
     simp only [↓evd,evu,evf,implies_true,reduceCtorEq,↓reduceIte,Nat.reduceLT,evz,e0]
     refine awp_loop (fun m fr τ=>∃ i,m+i=l.length∧fr.get 1=eChgs l∧fr.get 7= .int .i64 (s.length:Nat)∧fr.get 8= .int .i64 (i:Nat)∧(l.take i).any (fun c=>!valid c.text)=false∧τ=⟨W,F,.nil,0⟩) ?_ (m:=l.length) ?_
     ·clear e0 e1 e6 hlt hlt' hi ha
      rintro m fr τ ⟨i,hi,e1,e7,e8,ha,rfl⟩
      by_cases hlt:i<l.length
      ·have hlt':(i:Int)<(l.length:Int):=by omega
       have hw:=wrap_succ (i:=i) (by omega)
       have hg:=map_get eChg l i hlt
       have hat:=any_take (p:=fun c=>!valid c.text) hlt
       have hm:=List.getElem_mem hlt
       generalize l[i]=c at hg hat hm
       have q1:=rvalid_call ⟨W,F,.nil,0⟩ c.text (hc c hm)
       simp only [↓evd,evu,evf,implies_true,reduceCtorEq,↓reduceIte,Nat.reduceLT,evz,e1,e8,hlt',hg]
       refine MSpec.of q1 ?_
       cases b1:valid c.text with
       | false=>
        simp only [↓evd,evu,evf,implies_true,reduceCtorEq,↓reduceIte]
        exact seen (by rw [check_form hv h8' ho hin hdis (any_mem hm (by simp [b1]))]) rfl rfl
       | true=>
        simp only [↓evd,evu,evf,implies_true,reduceCtorEq,↓reduceIte,Nat.reduceLT,evz,e1,e7,e8,hw]
        refine ⟨m - 1,by omega,i+1,by omega,rfl,?_⟩
        rw [hat,ha];simp [b1]
      ·have hlt':¬(i:Int)<(l.length:Int):=by omega
       rw [List.take_of_length_le (by omega)] at ha
       have hfo:=ha
       have hck:=check_long hv h8' ho hin hdis hfo
       rw [longI,gains_spans hs ho] at hck
       have hsp:=fun i=>spans_le (any_sub ho i)
       have hbig:(l.length:Int) * (s.length:Int)≤8 * 68719476736:=Int.mul_le_mul (by omega) (by omega) (by omega) (by omega)
       have hsb:∀ i,0≤spans (l.take i)∧spans (l.take i)≤8 * 68719476736:=fun i=>by
        have h1:=hsp i
        have h2:((l.take i).length:Int) * (s.length:Int)≤(8:Int) * 68719476736:=Int.mul_le_mul (by rw [List.length_take];omega) (by omega) (by omega) (by omega)
        omega
       simp only [↓evd,evu,evf,implies_true,reduceCtorEq,↓reduceIte,Nat.reduceLT,evz,e1,e8,hlt']
       refine awp_loop (fun m fr τ=>∃ i,m+i=l.length∧fr.get 1=eChgs l∧fr.get 7= .int .i64 ((s.length:Int) - spans (l.take i))∧fr.get 9= .int .i64 (i:Nat)∧τ=⟨W,F,.nil,0⟩) ?_ (m:=l.length) ?_
       ·clear e1 e7 e8 hlt hlt' hi ha
        rintro m fr τ ⟨i,hi,e1,e7,e9,rfl⟩
        by_cases hlt:i<l.length
        ·have hlt':(i:Int)<(l.length:Int):=by omega
         have hw:=wrap_succ (i:=i) (by omega)
         have hg:=map_get eChg l i hlt
         have hst:=spans_take hlt
         have hm:=List.getElem_mem hlt
         have hco:chgOut s l[i]=false:=by rw [List.any_eq_false] at ho;simpa using ho _ hm
         generalize l[i]=c at hg hst hm hco
         simp only [chgOut,Bool.or_eq_false_iff,decide_eq_false_iff_not] at hco
         have h1:=hsb i
         have h2:=hsb (i+1)
         have hw1:IntKind.i64.wrap (c.to - c.frm)=c.to - c.frm:=wrap_id (by omega) (by omega)
         have hw2:IntKind.i64.wrap ((s.length:Int) - spans (l.take i) - (c.to - c.frm))=(s.length:Int) - spans (l.take (i+1)):=by rw [wrap_id (by omega) (by omega)];omega
         simp only [↓evd,evu,evf,implies_true,reduceCtorEq,↓reduceIte,Nat.reduceLT,evz,e1,e9,hlt']
         with_reducible refine draw_of_grow (fun _=>True) (ms:=[false,false,false,false,false,false,false,false,false,false,false,false,false,false]) (by kernel_rfl) ?_
         simp only [↓evd,evu,evf,implies_true,reduceCtorEq,Nat.reduceEqDiff,↓reduceIte,Nat.reduceLT,evz,e1,e7,e9,hg,hw1,hw2,hw]
         exact ⟨m - 1,by omega,i+1,by omega,rfl,rfl⟩
        ·have hlt':¬(i:Int)<(l.length:Int):=by omega
         rw [List.take_of_length_le (by omega)] at e7
         have hb:=hsb l.length
         rw [List.take_of_length_le (Nat.le_refl _)] at hb
         by_cases hbig2:(20000:Int)<(s.length:Int) - spans l
         ·simp only [↓evd,evu,evf,implies_true,reduceCtorEq,↓reduceIte,Nat.reduceLT,evz,e1,e7,e9,hlt',hbig2]
          refine seen ?_ rfl rfl
          rw [hck]
          cases l with
          | nil=>simp only [longR];rw [if_pos (by omega)]
          | cons c l=>simp only [longR];rw [if_pos (by omega)]
         ·simp only [↓evd,evu,evf,implies_true,reduceCtorEq,↓reduceIte,Nat.reduceLT,evz,e1,e7,e9,hlt',hbig2]
          refine awp_loop (fun m fr τ=>∃ (i:Nat) (r:Int),m+i=l.length∧fr.get 1=eChgs l∧fr.get 7= .int .i64 (20000 - r)∧fr.get 10= .int .i64 (i:Nat)∧0≤r∧r≤8 * 68719476736+20000∧longR (l.drop i) r=check s l∧τ=⟨W,F,.nil,0⟩) ?_ (m:=l.length) ?_
          ·clear e1 e7 e9 hlt hlt' hi
           rintro m fr τ ⟨i,r,hi,e1,e7,e10,hr0,hr1,hl,rfl⟩
           by_cases hlt:i<l.length
           ·have hlt':(i:Int)<(l.length:Int):=by omega
            have hw:=wrap_succ (i:=i) (by omega)
            have hg:=map_get eChg l i hlt
            rw [List.drop_eq_getElem_cons hlt,longR] at hl
            generalize l[i]=c at hg hl
            have hw1:IntKind.i64.wrap (20000 - (20000 - r))=r:=by rw [wrap_id (by omega) (by omega)];omega
            by_cases hlo:r<(c.text.length:Int)
            ·rw [if_pos hlo] at hl
             simp only [↓evd,evu,evf,implies_true,reduceCtorEq,↓reduceIte,Nat.reduceLT,evz,e1,e7,e10,hlt',hg,hw1,hlo]
             exact seen (by rw [← hl]) rfl rfl
            ·rw [if_neg hlo] at hl
             have hw2:IntKind.i64.wrap (20000 - r+(c.text.length:Int))=20000 - (r - (c.text.length:Int)):=by rw [wrap_id (by omega) (by omega)];omega
             simp only [↓evd,evu,evf,implies_true,reduceCtorEq,Nat.reduceEqDiff,↓reduceIte,Nat.reduceLT,evz,e1,e7,e10,hlt',hg,hw1,hlo,hw2,hw]
             exact ⟨m - 1,by omega,i+1,r - (c.text.length:Int),by omega,rfl,rfl,by omega,by omega,hl⟩
           ·have hlt':¬(i:Int)<(l.length:Int):=by omega
            rw [List.drop_eq_nil_of_le (by omega),longR,if_neg (by omega)] at hl
            simp only [↓evd,evu,evf,implies_true,reduceCtorEq,↓reduceIte,Nat.reduceLT,evz,e1,e10,hlt']
            exact seen (by rw [← hl]) rfl rfl
          ·refine ⟨0,20000 - (s.length:Int)+spans l,by omega,?_⟩
           simp only [evu,↓reduceIte,Nat.reduceLT,evz,e1,e7]
           refine ⟨by congr 1;omega,by omega,by omega,?_⟩
           rw [hck]
       ·refine ⟨0,by omega,?_⟩
        simp only [evu,↓reduceIte,Nat.reduceLT,evz,e1,e7]
        simp [spans]
     ·refine ⟨0,by omega,?_⟩
      simp only [evu,↓reduceIte,Nat.reduceLT,evz,e1]
      simp
   ·refine ⟨0,by omega,?_⟩
    simp only [evu,↓reduceIte,Nat.reduceLT,evz,e0,e1]
    simp
 ·refine ⟨0,by omega,?_⟩
  simp only [evu,reduceCtorEq,↓reduceIte,Nat.reduceLT,evz]
  simp
end Go.Proofs.YtioampofolilnaaGreat.M
namespace Go.Proofs.YtioampofolilnaaGreat.M
open Go Go.Mini
def OrdC (n:Nat):List Chg→Int→Prop
 | [],at'=>at'≤(n:Int)
 | c::l,at'=>at'≤c.frm∧c.frm≤c.to∧c.to≤(n:Int)∧OrdC n l c.to
theorem OrdC.low {n:Nat}:∀ {l:List Chg} {at':Int},OrdC n l at'→∀ c∈l,at'≤c.frm
 | [],_,_,c,h=>by cases h
 | d::l,at',h,c,hc=>by
  obtain ⟨h1,h2,h3,h4⟩:=h
  rcases List.mem_cons.1 hc with rfl | hc
  ·exact h1
  ·have:=h4.low c hc;omega
theorem OrdC.le {n:Nat}:∀ {l:List Chg} {at':Int},OrdC n l at'→at'≤(n:Int)
 | [],_,h=>h
 | d::l,at',⟨h1,h2,h3,h4⟩=>by omega
theorem ord_of {s:List UInt8}:∀ {l:List Chg} {at':Int},l.any (chgOut s)=false→disorder l=false→at'≤(s.length:Int)→(∀ c,l.head? =some c→at'≤c.frm)→OrdC s.length l at'
 | [],at',_,_,h,_=>h
 | [c],at',h1,_,_,h3=>by
  simp only [List.any_cons,List.any_nil,Bool.or_false,chgOut,Bool.or_eq_false_iff,decide_eq_false_iff_not] at h1
  exact ⟨h3 c rfl,by omega,by omega,by simp only [OrdC];omega⟩
 | c::d::l,at',h1,h2,_,h3=>by
  rw [List.any_cons,Bool.or_eq_false_iff] at h1
  rw [disorder,Bool.or_eq_false_iff] at h2
  have h4:=h1.1
  simp only [chgOut,Bool.or_eq_false_iff,decide_eq_false_iff_not] at h4
  have h5:=h2.1
  simp only [chgBad,Bool.or_eq_false_iff,decide_eq_false_iff_not] at h5
  refine ⟨h3 c rfl,by omega,by omega,ord_of h1.2 h2.2 (by omega) fun e he=>?_⟩
  simp at he;subst he;omega
theorem check_ord {s:List UInt8} {l:List Chg} (h:check s l=0):OrdC s.length l 0:=by
 obtain ⟨_,_,h1,_,h2,_,_⟩:=check_zero h
 refine ord_of h1 h2 (by omega) fun c hc=>?_
 have hm:c∈l:=by cases l with | nil=>cases hc | cons d l=>simp at hc;subst hc;simp
 rw [List.any_eq_false] at h1
 have:=h1 c hm
 simp only [chgOut,Bool.or_eq_true,decide_eq_true_eq,not_or] at this
 omega
section
variable {r:Int} {u:List Int}
theorem take_text {l:List Atom} {j:Nat} (h:j<l.length):atomsText r u (l.take (j+1))=atomsText r u (l.take j) ++ (if visible r u l[j] then l[j].text else []):=by
 rw [List.take_succ_eq_append_getElem h,atomsText_append]
 simp only [atomsText,List.append_nil]
end
section
variable {h now g rank:Int} {u:List Int}
end
end Go.Proofs.YtioampofolilnaaGreat.M
namespace Go.Proofs.YtioampofolilnaaGreat.M
open Go Go.Mini
attribute [local congr] go1_congr goM_congr goG_congr goV_congr drawwp_congr Xwp_congr
theorem slcS_eq {s:List UInt8} {a b:Int} (h0:0≤a) (h1:a≤b) (h2:b≤(s.length:Int)):aSlcS (.str s) (some (.int .i64 a)) (some (.int .i64 b))=some (.str ((s.take b.toNat).drop a.toNat)):=by
 have b1:aBound (some (.int .i64 b)) s.length s.length=some b.toNat:=by simp only [aBound];rw [if_pos (by simp;omega)]
 have b2:aBound (some (.int .i64 a)) 0 b.toNat=some a.toNat:=by simp only [aBound];rw [if_pos (by simp;omega)]
 simp only [aSlcS,b1,b2]
theorem undone17_call (σ:Heap) (u:List Int) (g:Int) (hl:u.length≤1000000):ACall Tryz.prog n_palinoderef17_Undone [ints u,.int .i64 g] σ (.bool (!holds u g)) σ:=by
 refine exact_call (spec_of_awp mixed c_palinoderef17_Undone (tl rfl) ?_)
 unfold f_palinoderef17_Undone
 have hin:=in_call σ u g hl
 by_cases h:g= -1
 ·have hb:(g != -1)=false:=by simpa using h
  have hh:(!holds u g)=false:=by simp [holds,h]
  simp +decide only [↓evd,evw,evz,reduceCtorEq,↓reduceIte,hb,hh]
 ·have hb:(g != -1)=true:=by simpa using h
  have hh:(!holds u g)=decide (g∈u):=by simp [holds,h]
  simp +decide only [↓evd,evw,evz,reduceCtorEq,↓reduceIte,hb]
  refine MSpec.of hin ?_
  simp +decide only [↓evd,evw,reduceCtorEq,↓reduceIte,hh]
theorem rvisible_call (σ:Heap) (a:Atom) (rev:Int) (u:List Int) (hl:u.length≤1000000) (hc:a.cuts.length≤1000000):ACall Tryz.prog n_palinoderef17_Visible [eAtom a,.int .i64 rev,ints u] σ (.bool (visible rev u a)) σ:=by
 refine bare_call (by simp only [AVal.pures,ints_pure,eAtom_pure];rfl) rfl (fun W F=>spec_of_awp mixed c_palinoderef17_Visible (tl rfl) ?_) σ
 unfold f_palinoderef17_Visible
 have hun:=fun (τ:Heap) g=>undone17_call τ u g hl
 simp only [ints] at hun
 by_cases h:rev<a.rev
 ·simp +decide only [↓evd,evw,evz,reduceCtorEq,↓reduceIte,eAtom,h]
  exact seen (by simp only [visible];rw [decide_eq_false (by omega)];rfl) rfl rfl
 have h':a.rev≤rev:=by omega
 simp +decide only [↓evd,evw,evz,reduceCtorEq,↓reduceIte,eAtom,h]
 refine MSpec.of (hun _ _) ?_
 cases hh:holds u a.group
 ·simp +decide only [↓evd,evw,reduceCtorEq,↓reduceIte]
  exact seen (by simp only [visible,hh,Bool.and_false,Bool.false_and]) rfl rfl
 simp +decide only [↓evd,evw,reduceCtorEq,↓reduceIte]
 refine awp_loop (fun m fr τ=>∃ i,m+i=a.cuts.length∧fr.get 1= .int .i64 rev∧fr.get 2=ints u∧fr.get 3= .ptr (.new 0) 0∧fr.get 7= .int .i64 (i:Nat)∧(a.cuts.take i).any (cutHolds rev u)=false∧τ.get 0=some (.cells [.str a.text,.int .i64 a.rev,.int .i64 a.group,.int .i64 a.rank,eCuts a.cuts] none)∧τ.W=W∧τ.F0=F) ?_ (m:=a.cuts.length) ?_
 ·rintro m fr τ ⟨i,hi,e1,e2,e3,e7,ha,hg0,hW,hF⟩
  simp only [eCuts] at hg0
  by_cases hlt:i<a.cuts.length
  ·have hlt':(i:Int)<(a.cuts.length:Int):=by omega
   have hs:=wrap_succ (i:=i) (by omega)
   have hg:=map_get eCut a.cuts i hlt
   have htk:=List.take_succ_eq_append_getElem hlt
   have hmem:=List.getElem_mem hlt
   generalize a.cuts[i]=c at hg htk hmem
   by_cases hr:c.rev≤rev
   ·simp +decide only [↓evd,evw,evz,reduceCtorEq,↓reduceIte,e1,e2,e3,e7,hg0,hlt',hg,eCut,hr]
    refine MSpec.of (hun _ _) ?_
    cases hhc:holds u c.group
    ·simp +decide only [↓evd,evw,evz,reduceCtorEq,↓reduceIte,e1,e2,e3,e7,hs]
     refine ⟨m - 1,by omega,i+1,by omega,rfl,?_,hg0,hW,hF⟩
     rw [htk,List.any_append,ha];simp [cutHolds,hhc]
    ·simp +decide only [↓evd,evw,reduceCtorEq,↓reduceIte]
     refine seen ?_ hW hF
     have:a.cuts.any (cutHolds rev u)=true:=List.any_eq_true.2 ⟨c,hmem,by simp [cutHolds,hhc,hr]⟩
     simp only [visible,this,Bool.not_true,Bool.and_false]
   ·simp +decide only [↓evd,evw,evz,reduceCtorEq,↓reduceIte,e1,e2,e3,e7,hg0,hlt',hg,eCut,hr,hs]
    refine ⟨m - 1,by omega,i+1,by omega,rfl,?_,hW,hF⟩
    rw [htk,List.any_append,ha];simp [cutHolds,hr]
  ·have hlt':¬(i:Int)<(a.cuts.length:Int):=by omega
   rw [List.take_of_length_le (by omega)] at ha
   simp +decide only [↓evd,evw,evz,reduceCtorEq,↓reduceIte,e3,e7,hg0,hlt']
   refine seen ?_ hW hF
   simp only [visible,hh,ha,Bool.not_false,Bool.and_true];rw [decide_eq_true h']
 ·refine ⟨0,by omega,?_⟩
  simp +decide only [evw,evz,↓reduceIte]
  simp []
theorem asBytes_app (s:List UInt8):asBytes (byteCells s)=some s:=by
 induction s with
 | nil=>rfl
 | cons b s ih=>
  have e:byteCells (b::s)= .int .u8 b.toNat::byteCells s:=rfl
  have hb:=b.toNat_lt
  rw [e]
  simp only [asBytes,asByte,ih]
  simp []
theorem own_bstr {B:Nat} {σ:Heap} {x:AVal} {s:List UInt8} (h:Own B σ t_u8 1 x (byteCells s)):aBstr x σ=some (.str s):=by
 rcases h.2 with ⟨rfl,h0⟩ | ⟨K,rfl,hg,_,_⟩
 ·have:s=[]:=by simpa [byteCells] using h0
  subst this;rfl
 ·rw [byteCells_flat] at hg
  have hc:cellsFrom σ (.new K) 0 ((byteCells s).length * 1)=some (byteCells s):=by
   rw [Nat.mul_one];exact cellsFrom_whole hg
  simp only [aBstr,slcCells,Nat.le_refl,if_true,hc,asBytes_app,Option.map_some]
theorem own_str {B:Nat} {σ:Heap} {x:AVal} {s:List UInt8} (h:Own B σ t_u8 1 x (byteCells s)) (hB:B≤σ.next) (t:List UInt8) (hr:s.length+t.length≤maxRoom):
  ∃ x' σ',aApp t_u8 1 1 x (.str t) σ=some (x',σ')∧Own B σ' t_u8 1 x' (byteCells (s ++ t))∧σ'.W=σ.W∧σ'.F0=σ.F0∧σ.next≤σ'.next∧(∀ q,q<σ.next→(∀ K o n c,x= .slc (.new K) o n c→q≠K)→σ'.get q=σ.get q):=by
 obtain ⟨x',σ',g1,g2,g3,g4⟩:=own_app (bytes:=1) (y:= .str t) (ys:=byteCells t) h hB (by simp only [aLenOf,byteCells_len]) (by
  rw [byteCells_flat,byteCells_len];simp [srcCells]) (byteCells_one t) (by rw [byteCells_flat];exact byteCells_cell t) (by omega) (by omega) (by rw [byteCells_len,byteCells_len];omega)
 exact ⟨x',σ',g1,by rw [byteCells_app];exact g2,g3.1,g3.2.1,g3.2.2.1,g4⟩
set_option maxHeartbeats 2000000 in
theorem rtext_call (σ:Heap) (l:List Atom) (rev:Int) (u:List Int) (hu:u.length≤1000000) (hl:Fits l):ACall Tryz.prog n_palinoderef17_Text [eAtoms l,.int .i64 rev,ints u] σ (.str (atomsText rev u l)) σ:=by
 refine bare_call (by simp only [AVal.pures,ints_pure,eAtoms_pure];rfl) rfl (fun W F=>spec_of_awp mixed c_palinoderef17_Text (tl rfl) ?_) σ
 obtain ⟨hl1,hl2,hl3⟩:=hl
 unfold f_palinoderef17_Text
 simp +decide only [↓evd,evw,evz,reduceCtorEq,eAtoms]
 refine awp_loop (fun m fr τ=>∃ i acc,m+i=l.length∧fr.get 0=eAtoms l∧fr.get 1= .int .i64 rev∧fr.get 2=ints u∧fr.get 8= .int .i64 (i:Nat)∧Own 0 τ t_u8 1 (fr.get 7) (byteCells acc)∧τ.W=W∧τ.F0=F∧
  acc ++ atomsText rev u (l.drop i)=atomsText rev u l∧acc.length+((l.drop i).map fun a=>a.text.length).sum≤maxRoom) ?_ (m:=l.length) ?_
 ·rintro m fr τ ⟨i,acc,hi,e0,e1,e2,e8,hO,hW,hF,hs,hr⟩
  generalize hx:fr.get 7=x at hO
  by_cases hlt:i<l.length
  ·have hlt':(i:Int)<(l.length:Int):=by omega
   have hg:=map_get eAtom l i hlt
   have hw:=wrap_succ (i:=i) (by omega)
   have hcl:=hl2 _ (List.getElem_mem hlt)
   rw [List.drop_eq_getElem_cons hlt] at hs hr
   generalize l[i]=a at hs hr hg hcl
   simp only [List.map_cons,List.sum_cons] at hr
   rw [atomsText] at hs
   have hv:=rvisible_call τ a rev u hu (by omega)
   simp only [eAtom,ints] at hv
   simp +decide only [↓evd,evw,evz,reduceCtorEq,↓reduceIte,e0,e1,e2,e8,hlt',eAtoms,hg,eAtom]
   refine MSpec.of hv ?_
   cases hvb:visible rev u a
   ·rw [hvb] at hs
    simp +decide only [↓evd,evw,evz,reduceCtorEq,↓reduceIte,e0,e1,e2,e8,hx,hw]
    exact ⟨m - 1,by omega,i+1,acc,by omega,rfl,hO,hW,hF,hs,by omega⟩
   ·rw [hvb] at hs
    obtain ⟨x',τ',g1,g2,g3,g4,g5,g6⟩:=own_str hO (Nat.zero_le _) a.text (by omega)
    simp +decide only [↓evd,evw,evz,reduceCtorEq,↓reduceIte,e0,e1,e2,e8,hx,hw,eAtoms,hg,eAtom,g1]
    exact ⟨m - 1,by omega,i+1,acc ++ a.text,by omega,rfl,g2,g3.trans hW,g4.trans hF,by rw [List.append_assoc];exact hs,by rw [List.length_append];omega⟩
  ·have hlt':¬(i:Int)<(l.length:Int):=by omega
   rw [List.drop_eq_nil_of_le (by omega),atomsText,List.append_nil] at hs
   have hb:=own_bstr hO
   simp +decide only [↓evd,evw,evz,reduceCtorEq,↓reduceIte,e0,e8,hx,hlt',eAtoms,hb]
   exact seen (by rw [hs]) hW hF
 ·refine ⟨0,[],by omega,?_⟩
  simp +decide only [evw,evz,↓reduceIte,eAtoms]
  first | exact ⟨rfl,Own.nil _ _ _ _,by simpa using hl3⟩ | exact ⟨Own.nil _ _ _ _,by simpa using hl3⟩
theorem places_tail (rev:Int) (u:List Int) (l:List Atom) (n:Nat):places rev u l n=(n:Int)::(places rev u l n).tail:=by cases l <;> rfl
set_option maxHeartbeats 2000000 in
theorem rplaces_call (σ:Heap) (l:List Atom) (rev:Int) (u:List Int) (hu:u.length≤1000000) (hl:Fits l):ACall Tryz.prog n_palinoderef17_Places [eAtoms l,.int .i64 rev,ints u] σ (ints (places rev u l 0)) σ:=by
 refine bare_call (by simp only [AVal.pures,ints_pure,eAtoms_pure];rfl) (ints_pure _) (fun W F=>spec_of_awp mixed c_palinoderef17_Places (tl rfl) ?_) σ
 obtain ⟨hl1,hl2,hl3⟩:=hl
 unfold f_palinoderef17_Places
 simp +decide only [↓evd,evw,evz,reduceCtorEq,↓reduceIte]
 refine awp_loop (fun m fr τ=>∃ i acc n,m+i=l.length∧fr.get 0=eAtoms l∧fr.get 1= .int .i64 rev∧fr.get 2=ints u∧fr.get 7= .int .i64 (n:Nat)∧fr.get 9= .int .i64 (i:Nat)∧Row 0 τ t_int 1 (fr.get 8) (acc.map (AVal.int .i64 ·))∧τ.W=W∧τ.F0=F∧
  acc ++ (places rev u (l.drop i) n).tail=places rev u l 0∧acc.length=i+1∧n+((l.drop i).map fun a=>a.text.length).sum≤maxRoom) ?_ (m:=l.length) ?_
 ·rintro m fr τ ⟨i,acc,n,hi,e0,e1,e2,e7,e9,hR,hW,hF,hs,ha,hr⟩
  have hroom:maxRoom=68719476736:=rfl
  generalize hx:fr.get 8=x at hR
  by_cases hlt:i<l.length
  ·have hlt':(i:Int)<(l.length:Int):=by omega
   have hg:=map_get eAtom l i hlt
   have hw:=wrap_succ (i:=i) (by omega)
   have hcl:=hl2 _ (List.getElem_mem hlt)
   rw [List.drop_eq_getElem_cons hlt] at hs hr
   generalize l[i]=a at hs hr hg hcl
   simp only [List.map_cons,List.sum_cons] at hr
   simp only [places,List.tail_cons] at hs
   have hv:=rvisible_call τ a rev u hu (by omega)
   simp only [eAtom,ints] at hv
   obtain ⟨n',hn'⟩:∃ n',n'=n+(if visible rev u a then a.text.length else 0):=⟨_,rfl⟩
   rw [← hn',places_tail] at hs
   have hn2:n'+((l.drop (i+1)).map fun a=>a.text.length).sum≤maxRoom:=by rw [hn'];split <;> omega
   have hsrc:=src_one (σ:=τ.new (.cells [.int .i64 (n':Nat)] none)) (K:=τ.next) (k:=1) (cs:=[.int .i64 (n':Nat)]) (opn:=none) (z:= .int .i64 (n':Nat)) (cap:= .ex 1) (by simp +decide only [evw,↓reduceIte]) rfl rfl
   obtain ⟨x',ρ,g1,g2,g3,g4⟩:=row_app (bytes:=8) (hR.new (.cells [.int .i64 (n':Nat)] none)) (Nat.zero_le _) hsrc.1 hsrc.2 (by intro z hz;simp at hz;subst hz;rfl) rfl (by omega) (by omega) (by simp;omega)
   have hR2:Row 0 ρ t_int 1 x' ((acc ++ [(n':Int)]).map (AVal.int .i64 ·)):=by rw [List.map_append];exact g2
   simp +decide only [↓evd,evw,evz,reduceCtorEq,↓reduceIte,e0,e1,e2,e9,hlt',eAtoms,hg,eAtom]
   refine MSpec.of hv ?_
   cases hvb:visible rev u a
   ·have hnn:n'=n:=by rw [hn',hvb];rfl
    rw [hnn] at g1
    simp +decide only [↓evd,evw,evz,reduceCtorEq,↓reduceIte,e0,e1,e2,e7,e9,hx,hw,g1]
    exact ⟨m - 1,by omega,i+1,acc ++ [(n':Int)],n,by omega,rfl,rfl,hR2,g3.1.trans hW,g3.2.1.trans hF,by rw [hnn] at hs ⊢;rw [List.append_assoc];exact hs,by simp [ha],by rw [hnn] at hn2;exact hn2⟩
   ·have hnn:n'=n+a.text.length:=by rw [hn',hvb];rfl
    have hwn:IntKind.i64.wrap ((n:Int)+(a.text.length:Int))=(n':Nat):=by rw [wrap_id (by omega) (by omega),hnn];rfl
    simp +decide only [↓evd,evw,evz,reduceCtorEq,↓reduceIte,e0,e1,e2,e7,e9,hx,hw,eAtoms,hg,eAtom,hwn,g1]
    exact ⟨m - 1,by omega,i+1,acc ++ [(n':Int)],n',by omega,rfl,rfl,hR2,g3.1.trans hW,g3.2.1.trans hF,by rw [List.append_assoc];exact hs,by simp [ha],hn2⟩
  ·have hlt':¬(i:Int)<(l.length:Int):=by omega
   rw [List.drop_eq_nil_of_le (by omega)] at hs
   simp only [places,List.tail_cons,List.append_nil] at hs
   subst hs
   obtain ⟨τ',h1,h2,h3⟩:=row_ints hR
   simp +decide only [↓evd,evw,evz,reduceCtorEq,↓reduceIte,e0,e9,hx,hlt',eAtoms]
   exact ⟨τ',h1,h2.trans hW,h3.trans hF⟩
 ·refine ⟨0,[0],0,by omega,?_⟩
  simp +decide only [evw,evz,↓reduceIte]
  refine ⟨⟨?_,.inr ⟨0,.ex 1,[.int .i64 0],none,rfl,by rw [Heap.get_new,if_pos rfl],rfl,Nat.le_refl _,by simp,.inr ⟨1,rfl,Nat.le_refl _,rfl⟩⟩⟩,(places_tail rev u l 0).symm,hl3⟩
  intro z hz;simp at hz;subst hz;rfl
def hit1 (p:Int) (c:Chg):Bool:=decide (c.frm≤p) && decide (p<c.to)
theorem cutHit_any (cs:List Chg) (p:Int):cutHit cs p=cs.any (hit1 p):=by
 simp only [cutHit];rfl
theorem ord_low {n:Nat} {p:Int}:∀ {cs:List Chg} {at':Int},OrdC n cs at'→p<at'→∀ c∈cs,hit1 p c=false
 | c::cs,at',h,hp,d,hd=>by
  obtain ⟨h1,h2,h3,h4⟩:=h
  rcases List.mem_cons.1 hd with rfl | hd
  ·simp only [hit1];rw [decide_eq_false (by omega)];rfl
  ·exact ord_low h4 (by omega) d hd
 | [],_,_,_,d,hd=>nomatch hd
theorem hits_one {n:Nat} {p i:Int}:∀ {cs:List Chg} {at':Int},OrdC n cs at'→(cs.filter (hit1 p)).map (fun _=>i)=if cs.any (hit1 p) then [i] else []
 | [],_,_=>rfl
 | c::cs,at',h=>by
  obtain ⟨h1,h2,h3,h4⟩:=h
  rw [List.filter_cons,List.any_cons]
  cases hc:hit1 p c
  ·simp only [Bool.false_eq_true,if_false,Bool.false_or];exact hits_one h4
  ·have hp:p<c.to:=by simp only [hit1,Bool.and_eq_true,decide_eq_true_eq] at hc;exact hc.2
   have hn:cs.filter (hit1 p)=[]:=List.filter_eq_nil_iff.2 fun d hd=>by rw [ord_low h4 hp d hd];simp
   simp [hn]
set_option maxHeartbeats 8000000 in
theorem rcuts_call (σ:Heap) (l:List Atom) (rev:Int) (u:List Int) (cs:List Chg) (hu:u.length≤1000000) (hl:Fits l) (hll:l.length≤100000) (hcl:cs.length≤1000000) (hc:∀ c∈cs,ChgFits c):
  ACall Tryz.prog n_palinoderef17_Cuts [eAtoms l,.int .i64 rev,ints u,eChgs cs] σ (ints (cuts l rev u cs)) σ:=by
 refine bare_call (by simp only [AVal.pures,ints_pure,eAtoms_pure,eChgs_pure];rfl) (ints_pure _) (fun W F=>spec_of_awp mixed c_palinoderef17_Cuts (tl rfl) ?_) σ
 unfold f_palinoderef17_Cuts
 have hl':=hl
 obtain ⟨hl1,hl2,hl3⟩:=hl
 have htx:=fun τ=>rtext_call τ l rev u hu hl'
 have hpl:=fun τ=>rplaces_call τ l rev u hu hl'
 have hck:=fun τ=>rcheck_call τ (atomsText rev u l) cs (Nat.le_trans (atomsText_len rev u l) hl3) (by omega) hc
 simp only [eAtoms,ints,eChgs] at htx hpl hck
 simp +decide only [↓evd,evw,evz,reduceCtorEq,↓reduceIte,eAtoms,eChgs]
 refine MSpec.of (htx _) ?_
 simp +decide only [↓evd,evw,reduceCtorEq,↓reduceIte]
 refine MSpec.of (hck _) ?_
 by_cases h0:check (atomsText rev u l) cs=0
 case neg=>
  have hb:(check (atomsText rev u l) cs != 0)=true:=by simpa using h0
  simp +decide only [↓evd,evw,reduceCtorEq,↓reduceIte,hb]
  rw [cuts,if_neg h0]
  exact ⟨_,Sees.nils _ 1,rfl,rfl⟩
 have hb:(check (atomsText rev u l) cs != 0)=false:=by simpa using h0
 have hord:=check_ord h0
 simp +decide only [↓evd,evw,reduceCtorEq,↓reduceIte,hb]
 refine MSpec.of (hpl _) ?_
 have hps:=places_len rev u l 0
 have hcut:cuts l rev u cs=cutsF rev u cs l (places rev u l 0) 0:=by rw [cuts,if_pos h0]
 generalize places rev u l 0=ps at hps hcut
 rw [hcut]
 simp +decide only [↓evd,evw,reduceCtorEq,↓reduceIte]
 refine awp_loop (fun m fr τ=>∃ (i:Nat) (acc:List Int),m+i=l.length∧fr.get 0=eAtoms l∧fr.get 1= .int .i64 rev∧fr.get 2=ints u∧fr.get 3=eChgs cs∧fr.get 10=ints ps∧fr.get 11= .int .i64 (i:Nat)∧Own 0 τ t_int 1 (fr.get 9) (acc.map (AVal.int .i64 ·))∧acc ++ cutsF rev u cs (l.drop i) (ps.drop i) i=cutsF rev u cs l ps 0∧acc.length≤i∧τ.W=W∧τ.F0=F) ?_ (m:=l.length) ?_
 ·rintro m fr τ ⟨i,acc,hi,e0,e1,e2,e3,e10,e11,hO,hs,hal,hW,hF⟩
  generalize hx:fr.get 9=x at hO
  by_cases hlt:i<l.length
  ·have hlt':(i:Int)<(l.length:Int):=by omega
   have hg:=map_get eAtom l i hlt
   have hgp:=map_get (AVal.int .i64 ·) ps i (by omega)
   have hw:=wrap_succ (i:=i) (by omega)
   have hcl2:=hl2 _ (List.getElem_mem hlt)
   rw [List.drop_eq_getElem_cons hlt,List.drop_eq_getElem_cons (show i<ps.length by omega),cutsF] at hs
   generalize l[i]=a at hg hs hcl2
   generalize ps[i]=p at hgp hs
   have hv:=rvisible_call τ a rev u hu (by omega)
   simp only [eAtom,ints] at hv
   simp +decide only [↓evd,evw,evz,reduceCtorEq,↓reduceIte,e0,e1,e2,e11,hlt',eAtoms,eChgs,hg,eAtom]
   refine MSpec.of hv ?_
   cases hvb:visible rev u a
   ·rw [hvb] at hs
    simp +decide only [↓evd,evw,evz,reduceCtorEq,↓reduceIte,e0,e1,e2,e3,e10,e11,hx,hw]
    exact ⟨m - 1,by omega,i+1,acc,by omega,rfl,hO,hs,by omega,hW,hF⟩
   ·rw [hvb,Bool.true_and,cutHit_any,← hits_one (p:=p) (i:=(i:Int)) hord] at hs
    simp +decide only [↓evd,evw,reduceCtorEq,↓reduceIte]
    refine awp_loop (fun m' fr τ=>∃ (k:Nat),m'+k=cs.length∧fr.get 0=eAtoms l∧fr.get 1= .int .i64 rev∧fr.get 2=ints u∧fr.get 3=eChgs cs∧fr.get 10=ints ps∧fr.get 11= .int .i64 (i:Nat)∧fr.get 12= .int .i64 (k:Nat)∧Own 0 τ t_int 1 (fr.get 9) ((acc ++ ((cs.take k).filter (hit1 p)).map fun _=>(i:Int)).map (AVal.int .i64 ·))∧τ.W=W∧τ.F0=F) ?_ (m:=cs.length) ?_
    ·clear e0 e1 e2 e3 e10 e11 hx hO hW hF
     rintro m' fr τ ⟨k,hk,e0,e1,e2,e3,e10,e11,e12,hO,hW,hF⟩
     generalize hx:fr.get 9=x at hO
     by_cases hkl:k<cs.length
     ·have hkl':(k:Int)<(cs.length:Int):=by omega
      have hgc:=map_get eChg cs k hkl
      have hwk:=wrap_succ (i:=k) (by omega)
      have htk:=List.take_succ_eq_append_getElem hkl
      generalize cs[k]=c at hgc htk
      simp +decide only [↓evd,evw,evz,reduceCtorEq,↓reduceIte,e3,e12,hkl',eChgs]
      with_reducible refine draw_of_grow (fun _=>True) (ms:=[false,false,false,false,false,false,false,false,false,false,false,false,false,false,false,false,false,false,false,false,false,false]) (by kernel_rfl) ?_
      by_cases hh:hit1 p c=true
      ·have hh':=hh
       simp only [hit1,Bool.and_eq_true,decide_eq_true_eq] at hh'
       have hlen:(acc ++ ((cs.take k).filter (hit1 p)).map fun _=>(i:Int)).length≤1000000:=by
        rw [List.length_append,List.length_map]
        have:=List.length_filter_le (hit1 p) (cs.take k)
        rw [List.length_take] at this
        have h8:=(check_zero h0).2.1
        omega
       obtain ⟨y1,ρ1,a1,a2,a3,a4,a5,a6,a7⟩:=own_int hO (Nat.zero_le _) hlen (i:Int)
       simp +decide only [↓evd,evw,evz,reduceCtorEq,↓reduceIte,e0,e1,e2,e3,e10,e11,e12,hx,eChgs,hgp,hgc,eChg,hh'.1,hh'.2,a1,hwk]
       refine ⟨m' - 1,by omega,k+1,by omega,rfl,?_,a3.trans hW,a4.trans hF⟩
       have hq:acc ++ ((cs.take (k+1)).filter (hit1 p)).map (fun _=>(i:Int))=(acc ++ ((cs.take k).filter (hit1 p)).map fun _=>(i:Int)) ++ [(i:Int)]:=by
        rw [htk,List.filter_append,List.filter_cons,if_pos hh,List.map_append,List.append_assoc];rfl
       rw [hq]
       exact a2
      ·have hq:((cs.take (k+1)).filter (hit1 p))=(cs.take k).filter (hit1 p):=by
        rw [htk,List.filter_append,List.filter_cons,if_neg hh];simp
       by_cases h1:c.frm≤p
       ·have h2:¬p<c.to:=fun h=>hh (by simp [hit1,h1,h])
        simp +decide only [↓evd,evw,evz,reduceCtorEq,↓reduceIte,e0,e1,e2,e3,e10,e11,e12,hx,eChgs,hgp,hgc,eChg,h1,h2,hwk]
        exact ⟨m' - 1,by omega,k+1,by omega,rfl,by rw [hq];exact hO,hW,hF⟩
       ·simp +decide only [↓evd,evw,evz,reduceCtorEq,↓reduceIte,e0,e1,e2,e3,e10,e11,e12,hx,eChgs,hgp,hgc,eChg,h1,hwk]
        exact ⟨m' - 1,by omega,k+1,by omega,rfl,by rw [hq];exact hO,hW,hF⟩
     ·have hkl':¬(k:Int)<(cs.length:Int):=by omega
      rw [List.take_of_length_le (by omega)] at hO
      simp +decide only [↓evd,evw,evz,reduceCtorEq,↓reduceIte,e0,e1,e2,e3,e10,e11,e12,hx,hkl',eChgs,hw]
      refine ⟨m - 1,by omega,i+1,_,by omega,rfl,hO,by rw [List.append_assoc];exact hs,?_,hW,hF⟩
      rw [List.length_append,hits_one hord]
      split <;> simp <;> omega
    ·refine ⟨0,by omega,?_⟩
     simp +decide only [evw,evz,↓reduceIte,e0,e1,e2,e3,e10,e11,hx]
     simp only [List.filter_nil,List.map_nil,List.append_nil]
     exact ⟨hO,hW,hF⟩
  ·have hlt':¬(i:Int)<(l.length:Int):=by omega
   rw [List.drop_eq_nil_of_le (show l.length≤i by omega),cutsF_nil,List.append_nil] at hs
   subst hs
   obtain ⟨τ3,s1,d1⟩:=Own.sees2 hO
   have hW3:τ3.W=W∧τ3.F0=F:=by rcases d1 with rfl | ⟨K,_,rfl,hK2⟩ <;> exact ⟨hW,hF⟩
   simp +decide only [↓evd,evw,evz,reduceCtorEq,↓reduceIte,e0,e11,hx,hlt',eAtoms]
   exact ⟨τ3,s1,hW3.1,hW3.2⟩
 ·refine ⟨0,[],by omega,?_⟩
  simp +decide only [evw,evz,↓reduceIte]
  first | exact ⟨rfl,rfl,Own.nil _ _ _ _⟩ | exact ⟨rfl,Own.nil _ _ _ _⟩ | exact Own.nil _ _ _ _
end Go.Proofs.YtioampofolilnaaGreat.M
namespace Go.Proofs.YtioampofolilnaaGreat.M
open Go Go.Mini
attribute [local congr] go1_congr goM_congr goG_congr goV_congr drawwp_congr Xwp_congr
set_option maxHeartbeats 8000000 in
theorem rspots_call (σ:Heap) (l:List Atom) (rev:Int) (u:List Int) (cs:List Chg) (rank:Int) (hu:u.length≤1000000) (hl:Fits l) (hcl:cs.length≤1000000) (hc:∀ c∈cs,ChgFits c):
  ACall Tryz.prog n_palinoderef17_Spots [eAtoms l,.int .i64 rev,ints u,eChgs cs,.int .i64 rank] σ (ints (spots l rev u cs rank)) σ:=by
 refine bare_call (by simp only [AVal.pures,eAtoms_pure,ints_pure,eChgs_pure];rfl) (ints_pure _) (fun W F=>spec_of_awp mixed c_palinoderef17_Spots (tl rfl) ?_) σ
 unfold f_palinoderef17_Spots
 have hl':=hl
 obtain ⟨hl1,hl2,hl3⟩:=hl
 have htx:=fun τ=>rtext_call τ l rev u hu hl'
 have hpl:=fun τ=>rplaces_call τ l rev u hu hl'
 have hck:=fun τ=>rcheck_call τ (atomsText rev u l) cs (Nat.le_trans (atomsText_len rev u l) hl3) (by omega) hc
 simp only [eAtoms,ints,eChgs] at htx hpl hck
 simp +decide only [↓evd,evw,evz,reduceCtorEq,↓reduceIte,eAtoms,eChgs]
 refine MSpec.of (htx _) ?_
 simp +decide only [↓evd,evw,reduceCtorEq,↓reduceIte]
 refine MSpec.of (hck _) ?_
 by_cases h0:check (atomsText rev u l) cs=0
 case neg=>
  have hb:(check (atomsText rev u l) cs != 0)=true:=by simpa using h0
  simp +decide only [↓evd,evw,reduceCtorEq,↓reduceIte,hb]
  rw [spots,if_neg h0]
  exact ⟨_,Sees.nils _ 1,rfl,rfl⟩
 have hb:(check (atomsText rev u l) cs != 0)=false:=by simpa using h0
 have hsp:spots l rev u cs rank=cs.map fun c=>((spot l (places rev u l 0) rev u c.frm rank:Nat):Int):=if_pos h0
 rw [hsp]
 have hps:=places_len rev u l 0
 simp +decide only [↓evd,evw,reduceCtorEq,↓reduceIte,hb]
 refine MSpec.of (hpl _) ?_
 generalize places rev u l 0=ps at hps
 simp +decide only [↓evd,evw,reduceCtorEq,↓reduceIte]
 refine awp_loop (fun m fr τ=>∃ (k:Nat),m+k=cs.length∧fr.get 0=eAtoms l∧fr.get 1= .int .i64 rev∧fr.get 2=ints u∧fr.get 3=eChgs cs∧fr.get 4= .int .i64 rank∧fr.get 12=ints ps∧fr.get 13= .int .i64 (k:Nat)∧Own 0 τ t_int 1 (fr.get 11) (((cs.take k).map fun c=>((spot l ps rev u c.frm rank:Nat):Int)).map (AVal.int .i64 ·))∧τ.W=W∧τ.F0=F) ?_ (m:=cs.length) ?_
 ·rintro m fr τ ⟨k,hk,e0,e1,e2,e3,e4,e12,e13,hO,hW,hF⟩
  generalize hx:fr.get 11=x at hO
  by_cases hkl:k<cs.length
  ·have hkl':(k:Int)<(cs.length:Int):=by omega
   have hgc:=map_get eChg cs k hkl
   have hwk:=wrap_succ (i:=k) (by omega)
   have htk:=List.take_succ_eq_append_getElem hkl
   generalize cs[k]=c at hgc htk
   simp +decide only [↓evd,evw,evz,reduceCtorEq,↓reduceIte,e3,e13,hkl',eChgs]
   refine awp_loop (fun m' fr τ'=>∃ (i acc:Nat),m'+i=l.length∧fr.get 0=eAtoms l∧fr.get 1= .int .i64 rev∧fr.get 2=ints u∧fr.get 3=eChgs cs∧fr.get 4= .int .i64 rank∧fr.get 11=x∧fr.get 12=ints ps∧fr.get 13= .int .i64 (k:Nat)∧fr.get 14= .int .i64 (acc:Nat)∧fr.get 15= .int .i64 (i:Nat)∧spotF rev u c.frm (l.drop i) (ps.drop i) i acc=spotF rev u c.frm l ps 0 0∧τ'=τ) ?_ (m:=l.length) ?_
   ·clear e0 e1 e2 e3 e4 e12 e13 hx
    rintro m' fr τ' ⟨i,acc,hi,e0,e1,e2,e3,e4,hx,e12,e13,e14,e15,hs,rfl⟩
    by_cases hlt:i<l.length
    ·have hlt':(i:Int)<(l.length:Int):=by omega
     have hg:=map_get eAtom l i hlt
     have hgp:=map_get (AVal.int .i64 ·) ps i (by omega)
     have hw:=wrap_succ (i:=i) (by omega)
     have hca:=hl2 _ (List.getElem_mem hlt)
     rw [List.drop_eq_getElem_cons hlt,List.drop_eq_getElem_cons (show i<ps.length by omega),spotF] at hs
     generalize l[i]=a at hg hs hca
     generalize ps[i]=p at hgp hs
     have hv:=rvisible_call τ' a rev u hu (by omega)
     simp only [eAtom,ints] at hv
     simp +decide only [↓evd,evw,evz,reduceCtorEq,↓reduceIte,e0,e15,hlt',eAtoms]
     with_reducible refine draw_of_grow (fun _=>True) (ms:=[false,false,false,false,false,false,false,false,false,false,false,false,false,false,false,false,false,false,false]) (by kernel_rfl) ?_
     simp +decide only [↓evd,evw,evz,↓reduceIte,e0,e1,e2,e15,eAtoms,hg,eAtom]
     refine MSpec.of hv ⟨.inr Keeps.rfl,?_⟩
     cases hvb:visible rev u a
     ·rw [if_neg (by rw [hvb];simp)] at hs
      simp +decide only [↓evd,evw,evz,reduceCtorEq,↓reduceIte,e0,e1,e2,e3,e4,e12,e13,e14,e15,hx,hw]
      exact ⟨m' - 1,by omega,i+1,acc,by omega,rfl,rfl,hs⟩
     ·by_cases h1:p<c.frm
      ·rw [if_pos ⟨h1,hvb⟩] at hs
       simp +decide only [↓evd,evw,evz,reduceCtorEq,↓reduceIte,e0,e1,e2,e3,e4,e12,e13,e15,hx,eAtoms,eChgs,hgp,hgc,eChg,h1,hw]
       exact ⟨m' - 1,by omega,i+1,i+1,by omega,rfl,rfl,hs⟩
      ·rw [if_neg (fun h=>h1 h.1)] at hs
       simp +decide only [↓evd,evw,evz,reduceCtorEq,↓reduceIte,e0,e1,e2,e3,e4,e12,e13,e14,e15,hx,eAtoms,eChgs,hgp,hgc,eChg,h1,hw]
       exact ⟨m' - 1,by omega,i+1,acc,by omega,rfl,rfl,hs⟩
    ·have hlt':¬(i:Int)<(l.length:Int):=by omega
     rw [List.drop_eq_nil_of_le (show l.length≤i by omega),spotF_nil] at hs
     have hle:=spotF_le rev u c.frm l ps 0 0 (Nat.le_refl _)
     have hsp:spot l ps rev u c.frm rank=spotG rev rank (l.drop acc) acc:=by rw [hs];rfl
     rw [← hs] at hle
     simp +decide only [↓evd,evw,evz,reduceCtorEq,↓reduceIte,e0,e15,hlt',eAtoms]
     refine awp_loop (fun m' fr τ1=>∃ (j:Nat),m'+j=l.length∧fr.get 0=eAtoms l∧fr.get 1= .int .i64 rev∧fr.get 2=ints u∧fr.get 3=eChgs cs∧fr.get 4= .int .i64 rank∧fr.get 11=x∧fr.get 12=ints ps∧fr.get 13= .int .i64 (k:Nat)∧fr.get 14= .int .i64 (j:Nat)∧spotG rev rank (l.drop j) j=spot l ps rev u c.frm rank∧τ1=τ') ?_ (m:=l.length - acc) ?_
     ·clear e0 e1 e2 e3 e4 e12 e13 e14 e15 hx hlt hlt' hi hs hsp hle
      rintro m' fr τ1 ⟨j,hi,e0,e1,e2,e3,e4,hx,e12,e13,e14,hs,rfl⟩
      have stop:j=spot l ps rev u c.frm rank→∃ x1 ρ1,aApp t_int 1 8 x (.slc (.new τ1.next) 0 1 (.ex 1)) (τ1.new (.cells [.int .i64 (j:Nat)] none))=some (x1,ρ1)∧Own 0 ρ1 t_int 1 x1 (((cs.take (k+1)).map fun c=>((spot l ps rev u c.frm rank:Nat):Int)).map (AVal.int .i64 ·))∧ρ1.W=W∧ρ1.F0=F:=by
       intro hj
       obtain ⟨x1,ρ1,a1,a2,a3,a4,a5,a6,a7⟩:=own_int hO (Nat.zero_le _) (by simp;omega) ((j:Nat):Int)
       refine ⟨x1,ρ1,a1,?_,a3.trans hW,a4.trans hF⟩
       rw [htk,List.map_append]
       rw [hj] at a2
       exact a2
      by_cases hlt:j<l.length
      ·have hlt':(j:Int)<(l.length:Int):=by omega
       have hg:=map_get eAtom l j hlt
       have hw:=wrap_succ (i:=j) (by omega)
       rw [List.drop_eq_getElem_cons hlt,spotG] at hs
       generalize l[j]=a at hg hs
       by_cases h1:rev<a.rev
       ·by_cases h2:a.rank≤rank
        ·rw [if_pos ⟨h1,h2⟩] at hs
         simp +decide only [↓evd,evw,evz,reduceCtorEq,↓reduceIte,e0,e1,e2,e3,e4,e12,e13,e14,hx,hlt',eAtoms,hg,eAtom,h1,h2,hw]
         exact ⟨m' - 1,by omega,j+1,by omega,rfl,hs⟩
        ·rw [if_neg (fun h=>h2 h.2)] at hs
         obtain ⟨x1,ρ1,a1,a2,a3,a4⟩:=stop hs
         simp +decide only [↓evd,evw,evz,reduceCtorEq,↓reduceIte,e0,e1,e2,e3,e4,e12,e13,e14,hx,hlt',eAtoms,hg,eAtom,h1,h2,a1,hwk]
         exact ⟨m - 1,by omega,k+1,by omega,rfl,a2,a3,a4⟩
       ·rw [if_neg (fun h=>h1 h.1)] at hs
        obtain ⟨x1,ρ1,a1,a2,a3,a4⟩:=stop hs
        simp +decide only [↓evd,evw,evz,reduceCtorEq,↓reduceIte,e0,e1,e2,e3,e4,e12,e13,e14,hx,hlt',eAtoms,hg,eAtom,h1,a1,hwk]
        exact ⟨m - 1,by omega,k+1,by omega,rfl,a2,a3,a4⟩
      ·have hlt':¬(j:Int)<(l.length:Int):=by omega
       rw [List.drop_eq_nil_of_le (by omega),spotG] at hs
       obtain ⟨x1,ρ1,a1,a2,a3,a4⟩:=stop hs
       simp +decide only [↓evd,evw,evz,reduceCtorEq,↓reduceIte,e0,e1,e2,e3,e4,e12,e13,e14,hx,hlt',eAtoms,a1,hwk]
       exact ⟨m - 1,by omega,k+1,by omega,rfl,a2,a3,a4⟩
     ·refine ⟨acc,by omega,?_⟩
      simp +decide only [evw,evz,↓reduceIte,e0,e1,e2,e3,e4,e12,e13,e14,hx,eAtoms,eChgs]
      exact hsp.symm
   ·refine ⟨0,0,by omega,?_⟩
    simp +decide only [evw,evz,↓reduceIte,e0,e1,e2,e3,e4,e12,e13,hx,eAtoms,eChgs]
  ·have hkl':¬(k:Int)<(cs.length:Int):=by omega
   rw [List.take_of_length_le (by omega)] at hO
   obtain ⟨τ3,s1,d1⟩:=Own.sees2 hO
   have hW3:τ3.W=W∧τ3.F0=F:=by rcases d1 with rfl | ⟨K,_,rfl,hK2⟩ <;> exact ⟨hW,hF⟩
   simp +decide only [↓evd,evw,evz,reduceCtorEq,↓reduceIte,e3,e13,hx,hkl',eChgs]
   exact ⟨τ3,s1,hW3.1,hW3.2⟩
 ·refine ⟨0,by omega,?_⟩
  simp +decide only [evw,evz,↓reduceIte]
  first | exact ⟨rfl,rfl,Own.nil _ _ _ _⟩ | exact ⟨rfl,Own.nil _ _ _ _⟩ | exact Own.nil _ _ _ _
end Go.Proofs.YtioampofolilnaaGreat.M
namespace Go.Proofs.YtioampofolilnaaGreat.M
open Go Go.Mini
attribute [local congr] go1_congr goM_congr goG_congr goV_congr drawwp_congr Xwp_congr
abbrev t_strg:TypeId:=9
theorem rclean_call (σ:Heap) (s:List UInt8) (hs:s.length≤maxRoom) (hv:valid s=true):ACall Tryz.prog n_palinoderef1_Clean [.str s] σ (.str s) σ:=by
 refine exact_call (spec_of_awp mixed c_palinoderef1_Clean (tl rfl) ?_)
 unfold f_palinoderef1_Clean
 have h:=rvalid_call σ s hs
 rw [hv] at h
 simp +decide only [↓evd,evw,reduceCtorEq,↓reduceIte]
 refine MSpec.of h ?_
 simp +decide only [↓evd,evw,reduceCtorEq,↓reduceIte]
theorem own_strg {B:Nat} {σ:Heap} {x:AVal} {l:List (List UInt8)} (h:Own B σ t_strg 1 x (l.map AVal.str)) (hB:B≤σ.next) (hl:l.length≤1000000) (t:List UInt8):
  ∃ x' σ',aApp t_strg 1 16 x (.slc (.new σ.next) 0 1 (.ex 1)) (σ.new (.cells [.str t] none))=some (x',σ')∧Own B σ' t_strg 1 x' ((l ++ [t]).map AVal.str)∧σ'.W=σ.W∧σ'.F0=σ.F0:=by
 have hsrc:=src_one (σ:=σ.new (.cells [.str t] none)) (K:=σ.next) (k:=1) (cs:=[.str t]) (opn:=none) (z:= .str t) (cap:= .ex 1) (by rw [Heap.get_new,if_pos rfl]) rfl rfl
 obtain ⟨x',ρ,g1,g2,g3,g4,g5⟩:=own_app2 (bytes:=16) (h.new (.cells [.str t] none)) (Nat.le_succ_of_le hB) hsrc.1 hsrc.2 (by intro z hz;simp at hz;subst hz;rfl) rfl (by omega) (by omega) (by unfold maxRoom;simp;omega)
 exact ⟨x',ρ,g1,by rw [List.map_append];exact g2,g3.1,g3.2.1⟩
set_option maxHeartbeats 2000000 in
theorem rpoints_call (σ:Heap) (s:List UInt8) (hs:s.length≤900000) (hv:valid s=true):ACall Tryz.prog n_palinoderef1_Points [.str s] σ (.fsl 1 ((ptsOf s).map AVal.str)) σ:=by
 have hroom:maxRoom=68719476736:=rfl
 have hpure:AVal.pures ((ptsOf s).map AVal.str)=true:=by
  generalize ptsOf s=ps
  induction ps with
  | nil=>rfl
  | cons p ps ih=>simpa [AVal.pures,AVal.pure] using ih
 refine bare_call rfl (by simpa only [AVal.pure] using hpure) (fun W F=>spec_of_awp mixed c_palinoderef1_Points (tl rfl) ?_) σ
 unfold f_palinoderef1_Points
 have hcl:=fun τ=>rclean_call τ s (by omega) hv
 simp +decide only [↓evd,evw,reduceCtorEq,↓reduceIte]
 refine MSpec.of (hcl _) ?_
 obtain ⟨ps0,hp0⟩:∃ ps,pts s=some ps:=Option.isSome_iff_exists.1 hv
 have hpo:ptsOf s=ps0:=by rw [ptsOf,hp0];rfl
 rw [hpo]
 simp +decide only [↓evd,evw,reduceCtorEq,↓reduceIte]
 refine awp_loop (fun m fr τ=>∃ (i:Nat) (acc ps:List (List UInt8)),m+i=s.length∧fr.get 3= .str s∧fr.get 5= .int .i64 (i:Nat)∧Own 0 τ t_strg 1 (fr.get 4) (acc.map AVal.str)∧τ.W=W∧τ.F0=F∧pts (s.drop i)=some ps∧acc ++ ps=ps0∧acc.length≤i) ?_ (m:=s.length) ?_
 ·rintro m fr τ ⟨i,acc,ps,hi,e3,e5,hO,hW,hF,hp,hap,hal⟩
  generalize hx:fr.get 4=x at hO
  by_cases hlt:i<s.length
  ·have hlt':(i:Int)<(s.length:Int):=by omega
   have hne:s.drop i≠[]:=by intro h;have:=congrArg List.length h;simp at this;omega
   have hle:=pt_le (s.drop i)
   rw [List.length_drop] at hle
   have hpa:ptAt s (i:Int)=pt (s.drop i):=by simp only [ptAt];rw [if_neg (by omega),Int.toNat_natCast]
   rw [pts_step hne] at hp
   by_cases hz:(pt (s.drop i)).2=0
   ·rw [if_pos hz] at hp;cases hp
   rw [if_neg hz] at hp
   obtain ⟨ps',hp',rfl⟩:=Option.map_eq_some_iff.1 hp
   rw [List.drop_drop] at hp'
   have hrs:=rsize_call τ s i (by omega)
   rw [hpa] at hrs
   generalize (pt (s.drop i)).2=n at hle hz hp' hrs hap
   have hw:IntKind.i64.wrap ((i:Int)+(n:Int))=((i+n:Nat):Int):=by rw [wrap_id (by omega) (by omega)];omega
   have q1:=slcS_eq (s:=s) (a:=(i:Int)) (b:=((i+n:Nat):Int)) (by omega) (by omega) (by omega)
   have q2:(s.take ((i+n:Nat):Int).toNat).drop ((i:Int).toNat)=(s.drop i).take n:=by
    rw [Int.toNat_natCast,Int.toNat_natCast,List.drop_take];congr 1;omega
   rw [q2] at q1
   obtain ⟨x',τ',g1,g2,g3,g4⟩:=own_strg hO (Nat.zero_le _) (by omega) ((s.drop i).take n)
   simp +decide only [↓evd,evw,reduceCtorEq,↓reduceIte,e3,e5,hlt']
   refine MSpec.of hrs ?_
   simp +decide only [↓evd,evw,reduceCtorEq,↓reduceIte,e3,e5,hx,hw,q1,g1]
   refine ⟨m - n,by omega,i+n,acc ++ [(s.drop i).take n],ps',by omega,rfl,g2,g3.trans hW,g4.trans hF,hp',by rw [List.append_assoc];exact hap,by simp;omega⟩
  ·have hlt':¬(i:Int)<(s.length:Int):=by omega
   rw [List.drop_eq_nil_of_le (by omega)] at hp
   cases hp
   rw [List.append_nil] at hap
   subst hap
   obtain ⟨τ3,s1,d1⟩:=Own.sees2 hO
   have hW3:τ3.W=W∧τ3.F0=F:=by rcases d1 with rfl | ⟨K,_,rfl,hK2⟩ <;> exact ⟨hW,hF⟩
   simp +decide only [↓evd,evw,reduceCtorEq,↓reduceIte,e3,e5,hx,hlt']
   exact ⟨τ3,s1,hW3.1,hW3.2⟩
 ·refine ⟨0,[],ps0,by omega,?_⟩
  simp +decide only [evw,↓reduceIte]
  first | exact ⟨rfl,rfl,Own.nil _ _ _ _,hp0⟩ | exact ⟨rfl,Own.nil _ _ _ _,hp0⟩ | exact ⟨Own.nil _ _ _ _,hp0⟩
def rowZ:List Atom→List AVal→List AVal
 | a::l,z::zs=>.agg [.str a.text,.int .i64 a.rev,.int .i64 a.group,.int .i64 a.rank,z]::rowZ l zs
 | _,_=>[]
theorem rowZ_flat:∀ (l:List Atom) (zs:List AVal),(rowZ l zs).flatMap AVal.cells=flatR l zs
 | [],zs=>by cases zs <;> rfl
 | a::l,[]=>rfl
 | a::l,z::zs=>by simp only [rowZ,flatR,List.flatMap_cons,rowZ_flat l zs,AVal.cells];rfl
theorem rowZ_len:∀ {l:List Atom} {zs:List AVal},zs.length=l.length→(rowZ l zs).length=l.length
 | [],[],_=>rfl
 | a::l,z::zs,h=>by simp only [rowZ,List.length_cons];rw [rowZ_len (by simpa using h)]
theorem rowZ_app:∀ {l:List Atom} {zs:List AVal} {a:Atom} {z:AVal},zs.length=l.length→rowZ (l ++ [a]) (zs ++ [z])=rowZ l zs ++ [.agg [.str a.text,.int .i64 a.rev,.int .i64 a.group,.int .i64 a.rank,z]]
 | [],[],a,z,_=>rfl
 | b::l,y::zs,a,z,h=>by simp only [List.cons_append,rowZ];rw [rowZ_app (by simpa using h)]
structure AtomsRow (B:Nat) (τ:Heap) (x:AVal) (l:List Atom) (zs:List AVal):Prop where
 len:zs.length=l.length
 row:Own B τ t_Atom 5 x (rowZ l zs)
 own:∀ (j:Nat) (a:Atom) (z:AVal),l[j]? =some a→zs[j]? =some z→Own B τ t_Cut 2 z (a.cuts.map eCut)
 apart:∀ (j j':Nat) (z z':AVal),j<j'→zs[j]? =some z→zs[j']? =some z'→∀ k∈uid z,k∉uid z'
 off:∀ (j:Nat) (z:AVal),zs[j]? =some z→∀ k∈uid x,k∉uid z
theorem AtomsRow.nil (B:Nat) (τ:Heap):AtomsRow B τ .nils [] [] where
 len:=rfl
 row:=Own.nil _ _ _ _
 own:=fun j a z h=>by simp at h
 apart:=fun j j' z z' _ h=>by simp at h
 off:=fun j z h=>by simp at h
theorem own_low {B k:Nat} {e:TypeId} {σ:Heap} {x:AVal} {els:List AVal} (h:Own B σ e k x els):∀ K∈uid x,B≤K∧K<σ.next:=fun K hK=>by
 obtain ⟨o,n,c,e⟩:=mem_uid.1 hK;exact h.low e
theorem AtomsRow.push {B:Nat} {τ τ1:Heap} {x:AVal} {l:List Atom} {zs:List AVal} (h:AtomsRow B τ x l zs) (hB:B≤τ.next) (hk:Keep [] τ τ1) {a:Atom} {z:AVal} (hz:Own τ.next τ1 t_Cut 2 z (a.cuts.map eCut)) (hll:l.length≤1000000):
  ∃ x' τ3,aApp t_Atom 5 64 x (.slc (.new τ1.next) 0 1 (.ex 1)) (τ1.new (.cells [.str a.text,.int .i64 a.rev,.int .i64 a.group,.int .i64 a.rank,z] none))=some (x',τ3)∧AtomsRow B τ3 x' (l ++ [a]) (zs ++ [z])∧Ext B τ τ3:=by
 have hn:=hk.2.2.1
 have hrow:Own B τ1 t_Atom 5 x (rowZ l zs):=Own.move h.row hn fun K o n c e=>hk.get (h.row.low e).2
 have hzc:z.isCell=true:=own_kind hz
 have hsrc:=src_one (σ:=τ1.new (.cells [.str a.text,.int .i64 a.rev,.int .i64 a.group,.int .i64 a.rank,z] none)) (K:=τ1.next) (k:=5) (cs:=[.str a.text,.int .i64 a.rev,.int .i64 a.group,.int .i64 a.rank,z]) (opn:=none) (z:= .agg [.str a.text,.int .i64 a.rev,.int .i64 a.group,.int .i64 a.rank,z]) (cap:= .ex 1) (by rw [Heap.get_new,if_pos rfl]) rfl rfl
 obtain ⟨x',τ3,g1,g2,g3,g4,g5⟩:=own_app2 (bytes:=64) (hrow.new (.cells [.str a.text,.int .i64 a.rev,.int .i64 a.group,.int .i64 a.rank,z] none)) (by simp;omega) hsrc.1 hsrc.2 (by intro y hy;simp at hy;subst hy;rfl)
  (by simp [AVal.cells,AVal.isCell] at hzc ⊢;exact hzc) (by omega) (by omega) (by rw [rowZ_len h.len];unfold maxRoom;simp;omega)
 have hkeep:∀ q,q<τ1.next→q∉uid x→τ3.get q=τ1.get q:=fun q hq hm=>by
  rw [g4 q (by simp;omega) (fun K o n c e hk2=>hm (mem_uid.2 ⟨o,n,c,by rw [hk2];exact e⟩)),Heap.get_new,if_neg (by omega)]
 have hn3:τ1.next<τ3.next:=by have:=g3.2.2.1;simp at this;omega
 have hzl:=own_low hz
 have hz3:Own B τ3 t_Cut 2 z (a.cuts.map eCut):=by
  have h1:Own τ.next τ3 t_Cut 2 z (a.cuts.map eCut):=Own.move hz (Nat.le_of_lt hn3) fun K o n c e=>by
   have h2:=hz.low e
   exact hkeep K h2.2 fun hm=>by have:=(own_low h.row K hm).2;omega
  refine ⟨h1.1,h1.2.imp id fun ⟨K,q1,q2,q3,q4⟩=>⟨K,q1,q2,by omega,q4⟩⟩
 have hold:∀ (j:Nat) (b:Atom) (y:AVal),l[j]? =some b→zs[j]? =some y→Own B τ3 t_Cut 2 y (b.cuts.map eCut):=fun j b y h1 h2=>by
  have h3:=h.own j b y h1 h2
  refine Own.move h3 (by omega) fun K o n c e=>?_
  have h4:=h3.low e
  rw [hkeep K (by omega) (fun hm=>h.off j y h2 K hm (mem_uid.2 ⟨_,_,_,e⟩)),hk.get h4.2]
 have split:∀ (j:Nat) (y:AVal),(zs ++ [z])[j]? =some y→(zs[j]? =some y∧j<l.length)∨(j=l.length∧y=z):=fun j y hy=>by
  rw [List.getElem?_append] at hy
  split at hy
  ·rename_i hj;exact .inl ⟨hy,by rw [← h.len];exact hj⟩
  ·rename_i hj
   rw [h.len] at hy hj
   have:j=l.length:=by
    rcases Nat.lt_or_ge (j - l.length) 1 with h1 | h1
    ·omega
    ·rw [List.getElem?_eq_none (by simpa using h1)] at hy;cases hy
   subst this
   simp at hy
   exact .inr ⟨rfl,hy.symm⟩
 have zold:∀ (j:Nat) (y:AVal),zs[j]? =some y→j<l.length→∀ k∈uid y,k<τ.next:=fun j y hy hj k hk2=>by
  exact (own_low (h.own j l[j] y (List.getElem?_eq_getElem hj) hy) k hk2).2
 refine ⟨x',τ3,g1,⟨by simp [h.len],by rw [rowZ_app h.len];exact g2,?_,?_,?_⟩,?_⟩
 ·intro j b y hb hy
  rcases split j y hy with ⟨h1,h2⟩ | ⟨rfl,rfl⟩
  ·rw [List.getElem?_append_left h2] at hb
   exact hold j b y hb h1
  ·rw [List.getElem?_append_right (Nat.le_refl _)] at hb
   simp at hb;subst hb;exact hz3
 ·intro j j' y y' hjj hy hy' k hk1 hk2
  rcases split j' y' hy' with ⟨h1,h2⟩ | ⟨rfl,rfl⟩
  ·rcases split j y hy with ⟨h3,h4⟩ | ⟨h3,_⟩
   ·exact h.apart j j' y y' hjj h3 h1 k hk1 hk2
   ·omega
  ·rcases split j y hy with ⟨h3,h4⟩ | ⟨h3,_⟩
   ·have:=zold j y h3 h4 k hk1
    have:=(hzl k hk2).1
    omega
   ·omega
 ·intro j y hy k hk1 hk2
  obtain ⟨o,n,c,e⟩:=mem_uid.1 hk1
  rcases g5 k o n c e with h1 | ⟨o',n',c',h1⟩
  ·simp at h1
   rcases split j y hy with ⟨h3,h4⟩ | ⟨_,rfl⟩
   ·have:=zold j y h3 h4 k hk2;omega
   ·have:=(hzl k hk2).2;omega
  ·have hkx:k∈uid x:=mem_uid.2 ⟨_,_,_,h1⟩
   rcases split j y hy with ⟨h3,h4⟩ | ⟨_,rfl⟩
   ·exact h.off j y h3 k hkx hk2
   ·have:=(own_low h.row k hkx).2
    have:=(hzl k hk2).1;omega
 ·refine ⟨g3.1.trans hk.1,g3.2.1.trans hk.2.1,by omega,fun q hq=>?_⟩
  rw [hkeep q (by omega) (fun hm=>by have:=(own_low h.row q hm).1;omega),hk.get (by omega)]
theorem AtomsRow.sees {B:Nat} {σ:Heap} {x:AVal} {l:List Atom} {zs:List AVal} (h:AtomsRow B σ x l zs):∃ ρ,Sees σ x ρ (eAtoms l)∧ρ.W=σ.W∧ρ.F0=σ.F0∧ρ.next=σ.next∧∀ q,q<B→ρ.get q=σ.get q:=by
 have hz:=h.len
 rcases h.row.2 with ⟨rfl,h0⟩ | ⟨K,rfl,hg,hBK,hKn⟩
 ·have:l=[]:=by
   have:=rowZ_len hz;rw [h0] at this;exact List.eq_nil_of_length_eq_zero this.symm
  subst this
  exact ⟨σ,Sees.nils σ 5,rfl,rfl,rfl,fun _ _=>rfl⟩
 have hKz:∀ (j:Nat) (z:AVal),zs[j]? =some z→K∉uid z:=fun j z hj hm=>h.off j z hj K (by simp [uid]) hm
 rw [rowZ_len hz]
 rw [rowZ_flat] at hg
 have step:∀ j,j≤l.length→∃ τ,Sees σ (.slc (.new K) 0 l.length (.gr 5)) τ (.slc (.new K) 0 l.length (.gr 5))∧τ.get K=some (.cells (flatR l (seenCuts l zs j)) (some t_Atom))∧(∀ (i:Nat) (a:Atom) (z:AVal),j≤i→l[i]? =some a→zs[i]? =some z→Own B τ t_Cut 2 z (a.cuts.map eCut))∧τ.W=σ.W∧τ.F0=σ.F0∧τ.next=σ.next∧∀ q,q<B→τ.get q=σ.get q:=by
  intro j
  induction j with
  | zero=>intro _;exact ⟨σ,Sees.refl _ _,hg,fun i a z _ ha hz=>h.own i a z ha hz,rfl,rfl,rfl,fun _ _=>rfl⟩
  | succ j ih=>
   intro hj
   obtain ⟨τ,h1,h2,h3,h4⟩:=ih (by omega)
   have hlz:j<zs.length:=by omega
   have hjl:j<l.length:=by omega
   have hx:=h3 j _ _ (Nat.le_refl _) (List.getElem?_eq_getElem hjl) (List.getElem?_eq_getElem hlz)
   have hget:(flatR l (seenCuts l zs j))[j * 5+4]? =some zs[j]:=by rw [flatR_get (seenCuts_len hz j),seenCuts_get hz hjl,List.getElem?_eq_getElem hlz]
   obtain ⟨τ1,s1,s2,s3,s4,s5⟩:=Row.sees2 (Own.row hx)
   have hnK:∀ q,q<B→q∉uid zs[j]:=fun q hq hm=>by have:=(own_low hx q hm).1;omega
   have h2':τ1.get K=some (.cells (flatR l (seenCuts l zs j)) (some t_Atom)):=by rw [s5 K (hKz j _ (List.getElem?_eq_getElem hlz))];exact h2
   have hs:=Sees.cell (off:=0) (n:=l.length) (cap:= .gr 5) h2 hget s1 h2'
   refine ⟨_,h1.trans hs,?_,?_,s2.trans h4.1,s3.trans h4.2.1,s4.trans h4.2.2.1,fun q hq=>?_⟩
   ·rw [Heap.get_set,if_pos rfl,flatR_set (seenCuts_len hz j)]
    have:=seenCuts_succ hz hjl
    simp only [eCuts] at this ⊢
    rw [this]
   ·intro i a z hi ha hzi
    have h5:=h3 i a z (by omega) ha hzi
    refine Own.move h5 (by rw [Heap.set_next,s4];exact Nat.le_refl _) fun k o n c hk=>?_
    have hkz:k∈uid z:=mem_uid.2 ⟨_,_,_,hk⟩
    rw [Heap.get_set,if_neg (fun e=>hKz i z hzi (by rw [e];exact hkz))]
    refine s5 k fun hk2=>?_
    exact h.apart j i zs[j] z (by omega) (List.getElem?_eq_getElem hlz) hzi k hk2 hkz
   ·rw [Heap.get_set,if_neg (by omega),s5 q (hnK q hq)]
    exact h4.2.2.2 q hq
 obtain ⟨τ,h1,h2,_,h4⟩:=step l.length (Nat.le_refl _)
 rw [seenCuts_all hz,flatR_full] at h2
 have hs:=Sees.own (off:=0) (n:=l.length) (cap:= .gr 5) (k:=5) (els:=l.map eAtom) h2 (by simp) (atoms_row l) (by
  rw [List.drop_zero,List.take_of_length_le (by rw [flat_len (atoms_row l)];simp)]) (fun c hc=>by cases hc)
 exact ⟨_,h1.trans hs,h4.1,h4.2.1,h4.2.2.1,fun q hq=>by rw [Heap.get_set,if_neg (by omega)];exact h4.2.2.2 q hq⟩
set_option maxHeartbeats 4000000 in
theorem rcopy_spec (σ:Heap) (l:List Atom) (hl:l.length≤1000000) (hc:∀ a∈l,a.cuts.length≤1000000):MSpec Tryz.prog n_palinoderef17_Copy [eAtoms l] σ fun v τ=>∃ zs,AtomsRow σ.next τ v l zs∧Keep [] σ τ:=by
 refine spec_of_awp mixed c_palinoderef17_Copy (tl rfl) ?_
 unfold f_palinoderef17_Copy
 have hroom:maxRoom=68719476736:=rfl
 simp +decide only [↓evd,evw,evz,reduceCtorEq]
 refine awp_loop (fun m fr τ=>∃ i zs,m+i=l.length∧fr.get 0=eAtoms l∧fr.get 4= .int .i64 (i:Nat)∧AtomsRow σ.next τ (fr.get 3) (l.take i) zs∧Keep [] σ τ) ?_ (m:=l.length) ?_
 ·rintro m fr τ ⟨i,zs,hi,e0,e4,hA,hK⟩
  generalize hx:fr.get 3=x at hA
  by_cases hlt:i<l.length
  ·have hlt':(i:Int)<(l.length:Int):=by omega
   have hw:=wrap_succ (i:=i) (by omega)
   have hg:=map_get eAtom l i hlt
   have htk:=List.take_succ_eq_append_getElem hlt
   have hcl:=hc _ (List.getElem_mem hlt)
   generalize l[i]=a at hg htk hcl
   have hn:=hK.2.2.1
   obtain ⟨τa,hτa⟩:∃ τa,τa=(τ.new (.cells [.str [],.int .i64 0,.int .i64 0,.int .i64 0,.nils] none)).set τ.next (.cells [.str a.text,.int .i64 a.rev,.int .i64 a.group,.int .i64 a.rank,.fsl 2 (a.cuts.map eCut)] none):=⟨_,rfl⟩
   have hna:τa.next=τ.next+1:=by rw [hτa];rfl
   have hka:Keep [] τ τa:=by rw [hτa];exact (Keep.refl _ _).junk _ _
   have hga:τa.get τ.next=some (.cells [.str a.text,.int .i64 a.rev,.int .i64 a.group,.int .i64 a.rank,.fsl 2 (a.cuts.map eCut)] none):=by rw [hτa,Heap.get_set,if_pos rfl]
   obtain ⟨z,τb,g1,g2,g3,g4⟩:=own_app (bytes:=16) (y:= .fsl 2 (a.cuts.map eCut)) (ys:=a.cuts.map eCut) (Own.nil τa.next τa t_Cut 2) (Nat.le_refl _) (by simp [aLenOf]) (by simp only [srcCells,slcCells];rw [if_pos (by simp),List.take_length]) (cuts_row _) (cuts_cell _) (by omega) (by omega) (by simp;omega)
   rw [List.nil_append] at g2
   have hgb:τb.get τ.next=some (.cells [.str a.text,.int .i64 a.rev,.int .i64 a.group,.int .i64 a.rank,.fsl 2 (a.cuts.map eCut)] none):=by rw [g3.2.2.2 _ (by omega)];exact hga
   obtain ⟨τc,hτc⟩:∃ τc,τc=τb.set τ.next (.cells [.str a.text,.int .i64 a.rev,.int .i64 a.group,.int .i64 a.rank,z] none):=⟨_,rfl⟩
   have hkb:Keep [] τ τb:=⟨g3.1.trans hka.1,g3.2.1.trans hka.2.1,by have:=g3.2.2.1;omega,fun q hq _=>by rw [g3.2.2.2 q (by omega),hka.get hq]⟩
   have hkc:Keep [] τ τc:=by rw [hτc];exact hkb.set (.inr (Nat.le_refl _)) _
   have hzc:Own τ.next τc t_Cut 2 z (a.cuts.map eCut):=by
    have h1:Own τa.next τc t_Cut 2 z (a.cuts.map eCut):=by
     rw [hτc]
     exact Own.set g2 (fun K o n c e h=>by have:=(g2.low e).1;omega) _
    exact ⟨h1.1,h1.2.imp id fun ⟨K,q1,q2,q3,q4⟩=>⟨K,q1,q2,by omega,q4⟩⟩
   obtain ⟨x',τ3,p1,p2,p3⟩:=hA.push hn hkc hzc (by simp;omega)
   rw [← htk] at p2
   have hK3:Keep [] σ τ3:=⟨p3.1.trans hK.1,p3.2.1.trans hK.2.1,by have:=p3.2.2.1;omega,fun q hq _=>by rw [p3.2.2.2 q hq];exact hK.get hq⟩
   rw [hτa] at g1
   have hgc:τc.get τ.next=some (.cells [.str a.text,.int .i64 a.rev,.int .i64 a.group,.int .i64 a.rank,z] none):=by rw [hτc,Heap.get_set,if_pos rfl]
   have hst:τb.set τ.next (.cells [.str a.text,.int .i64 a.rev,.int .i64 a.group,.int .i64 a.rank,z] none)=τc:=hτc.symm
   rcases (show z= .nils∨∃ K n,z= .slc (.new K) 0 n (.gr 2) from by
    rcases g2.2 with ⟨h,_⟩ | ⟨K,h,_⟩
    ·exact .inl h
    ·exact .inr ⟨K,_,h⟩) with rfl | ⟨K,n,rfl⟩
   all_goals
    simp +decide only [↓evd,evw,evz,reduceCtorEq,↓reduceIte,e0,e4,hx,hlt',eAtoms,hg,eAtom,eCuts,g1,hgb,hst,hgc,p1,hw]
    exact ⟨m - 1,by omega,i+1,_,by omega,rfl,p2,hK3⟩
  ·have hlt':¬(i:Int)<(l.length:Int):=by omega
   rw [List.take_of_length_le (by omega)] at hA
   simp +decide only [↓evd,evw,evz,reduceCtorEq,↓reduceIte,e0,e4,hx,hlt',eAtoms]
   exact ⟨zs,hA,hK⟩
 ·refine ⟨0,[],by omega,?_⟩
  simp +decide only [evw,evz,↓reduceIte]
  exact ⟨AtomsRow.nil _ _,Keep.refl _ _⟩
theorem rcopy_call (σ:Heap) (l:List Atom) (hl:l.length≤1000000) (hc:∀ a∈l,a.cuts.length≤1000000):ACall Tryz.prog n_palinoderef17_Copy [eAtoms l] σ (eAtoms l) σ:=by
 obtain ⟨v,τ,ha,zs,hA,hK⟩:=rcopy_spec σ l hl hc
 obtain ⟨ρ,s1,s2,s3,s4,s5⟩:=hA.sees
 exact acall_gc (acall_see ha s1) (eAtoms_pure _) (s2.trans hK.1) (s3.trans hK.2.1) fun q hq=>by rw [s5 q hq];exact hK.get hq
theorem rowZ_eat:∀ l:List Atom,rowZ l (l.map fun a=>eCuts a.cuts)=l.map eAtom
 | []=>rfl
 | a::l=>by simp only [List.map_cons,rowZ,rowZ_eat l];rfl
theorem rowZ_app2:∀ {l l':List Atom} {zs zs':List AVal},zs.length=l.length→rowZ (l ++ l') (zs ++ zs')=rowZ l zs ++ rowZ l' zs'
 | [],l',[],zs',_=>rfl
 | b::l,l',y::zs,zs',h=>by simp only [List.cons_append,rowZ];rw [rowZ_app2 (by simpa using h)]
structure AtomsDat (τ:Heap) (x:AVal) (l:List Atom) (zs:List AVal):Prop where
 len:zs.length=l.length
 row:Own 0 τ t_Atom 5 x (rowZ l zs)
 lst:∀ (j:Nat) (a:Atom) (z:AVal),l[j]? =some a→zs[j]? =some z→CutLst z a.cuts
theorem AtomsDat.sees {σ:Heap} {x:AVal} {l:List Atom} {zs:List AVal} (h:AtomsDat σ x l zs):∃ ρ,Sees σ x ρ (eAtoms l)∧ρ.W=σ.W∧ρ.F0=σ.F0:=by
 rcases h.row.2 with ⟨rfl,h0⟩ | ⟨K,rfl,hg,hBK,hKn⟩
 ·have:l=[]:=by
   have:=rowZ_len h.len;rw [h0] at this;exact List.eq_nil_of_length_eq_zero this.symm
  subst this
  exact ⟨σ,Sees.nils σ 5,rfl,rfl⟩
 ·rw [rowZ_flat] at hg
  obtain ⟨ρ,s1,s2,s3,s4,s5⟩:=sees_atoms (n:=(rowZ l zs).length) (cap:= .gr 5) (rowZ_len h.len) h.len h.lst [] (by rw [List.append_nil];exact hg) (fun c hc=>by cases hc)
  exact ⟨ρ,s1,s2,s3⟩
theorem lst_app {l l':List Atom} {zs zs':List AVal} (hl:zs.length=l.length) (h:∀ (j:Nat) (a:Atom) (z:AVal),l[j]? =some a→zs[j]? =some z→CutLst z a.cuts) (h':∀ (j:Nat) (a:Atom) (z:AVal),l'[j]? =some a→zs'[j]? =some z→CutLst z a.cuts):
  ∀ (j:Nat) (a:Atom) (z:AVal),(l ++ l')[j]? =some a→(zs ++ zs')[j]? =some z→CutLst z a.cuts:=by
 intro j a z ha hz
 rw [List.getElem?_append] at ha hz
 rw [hl] at hz
 split at ha
 ·rename_i hj
  rw [if_pos hj] at hz
  exact h j a z ha hz
 ·rename_i hj
  rw [if_neg hj] at hz
  exact h' _ a z ha hz
theorem lst_dat (l:List Atom):∀ (j:Nat) (a:Atom) (z:AVal),l[j]? =some a→(l.map fun a=>eCuts a.cuts)[j]? =some z→CutLst z a.cuts:=fun j a z ha hz=>by
 rw [List.getElem?_map,ha] at hz;cases hz;exact .inl rfl
theorem AtomsDat.app {σ:Heap} {x:AVal} {l:List Atom} {zs:List AVal} (h:AtomsDat σ x l zs) (l':List Atom) (hr:l.length+l'.length≤1000000):
  ∃ x' τ zs',aApp t_Atom 5 64 x (.fsl 5 (l'.map eAtom)) σ=some (x',τ)∧AtomsDat τ x' (l ++ l') zs'∧τ.W=σ.W∧τ.F0=σ.F0:=by
 obtain ⟨x',τ,g1,g2,g3,g4⟩:=own_app (bytes:=64) (y:= .fsl 5 (l'.map eAtom)) (ys:=l'.map eAtom) h.row (Nat.zero_le _) (by simp [aLenOf]) (by simp only [srcCells,slcCells];rw [if_pos (by simp),List.take_length]) (atoms_row _) (atoms_cell _) (by omega) (by omega) (by rw [rowZ_len h.len];unfold maxRoom;simp;omega)
 refine ⟨x',τ,zs ++ l'.map (fun a=>eCuts a.cuts),g1,⟨by simp [h.len],?_,lst_app h.len h.lst (lst_dat l')⟩,g3.1,g3.2.1⟩
 rw [rowZ_app2 h.len,rowZ_eat];exact g2
theorem AtomsDat.new1 {σ:Heap} {x:AVal} {l:List Atom} {zs:List AVal} (h:AtomsDat σ x l zs) (t:List UInt8) (rev group rank:Int) (hr:l.length≤900000):
  ∃ x' τ zs',aApp t_Atom 5 64 x (.slc (.new σ.next) 0 1 (.ex 1)) (σ.new (.cells [.str t,.int .i64 rev,.int .i64 group,.int .i64 rank,.nils] none))=some (x',τ)∧AtomsDat τ x' (l ++ [⟨t,rev,group,rank,[]⟩]) zs'∧τ.W=σ.W∧τ.F0=σ.F0:=by
 have hsrc:=src_one (σ:=σ.new (.cells [.str t,.int .i64 rev,.int .i64 group,.int .i64 rank,.nils] none)) (K:=σ.next) (k:=5) (cs:=[.str t,.int .i64 rev,.int .i64 group,.int .i64 rank,.nils]) (opn:=none) (z:= .agg [.str t,.int .i64 rev,.int .i64 group,.int .i64 rank,.nils]) (cap:= .ex 1) (by rw [Heap.get_new,if_pos rfl]) rfl rfl
 obtain ⟨x',τ,g1,g2,g3,g4⟩:=own_app (bytes:=64) (h.row.new (.cells [.str t,.int .i64 rev,.int .i64 group,.int .i64 rank,.nils] none)) (Nat.zero_le _) hsrc.1 hsrc.2 (by intro y hy;simp at hy;subst hy;rfl) rfl (by omega) (by omega) (by rw [rowZ_len h.len];unfold maxRoom;simp;omega)
 refine ⟨x',τ,zs ++ [.nils],g1,⟨by simp [h.len],?_,?_⟩,g3.1,g3.2.1⟩
 ·rw [rowZ_app2 h.len];exact g2
 ·refine lst_app h.len h.lst fun j a z ha hz=>?_
  match j with
  | 0=>cases ha;cases hz;exact .inr ⟨rfl,rfl⟩
  | j+1=>simp at ha
theorem slcA_take {l:List Atom} {i:Nat} (h:i≤l.length):aSlc 5 (.fsl 5 (l.map eAtom)) none (some (.int .i64 (i:Nat))) none=some (.fsl 5 ((l.take i).map eAtom)):=by
 have b1:aBound (some (.int .i64 (i:Nat))) (l.map eAtom).length (l.map eAtom).length=some i:=by
  simp only [aBound,List.length_map];rw [if_pos (by simp;omega)];rfl
 have b2:aBound none 0 i=some 0:=rfl
 have b3:aBound none (l.map eAtom).length (l.map eAtom).length=some (l.map eAtom).length:=rfl
 have e:((l.map eAtom).take i).drop 0=(l.take i).map eAtom:=by rw [List.drop_zero,List.map_take]
 simp only [aSlc,b3,b1,b2,e,Option.isSome_none,Bool.false_and,Bool.false_eq_true,if_false];rfl
theorem slcA_drop {l:List Atom} {i:Nat} (h:i≤l.length):aSlc 5 (.fsl 5 (l.map eAtom)) (some (.int .i64 (i:Nat))) none none=some (.fsl 5 ((l.drop i).map eAtom)):=by
 have b1:aBound (some (.int .i64 (i:Nat))) 0 (l.map eAtom).length=some i:=by
  simp only [aBound,List.length_map];rw [if_pos (by simp;omega)];rfl
 have b3:aBound none (l.map eAtom).length (l.map eAtom).length=some (l.map eAtom).length:=rfl
 have e:((l.map eAtom).take (l.map eAtom).length).drop i=(l.drop i).map eAtom:=by rw [List.take_length,List.map_drop]
 simp only [aSlc,b3,b1,e,Option.isSome_none,Bool.false_and,Bool.false_eq_true,if_false];rfl
set_option maxHeartbeats 4000000 in
theorem rput_call (σ:Heap) (l:List Atom) (k:Nat) (s:List UInt8) (rev group rank:Int) (hk:k≤l.length) (hl:l.length≤100000) (hc:∀ a∈l,a.cuts.length≤1000000) (hs:s.length≤700000) (hv:valid s=true):
  ACall Tryz.prog n_palinoderef17_Put [eAtoms l,.int .i64 (k:Nat),.str s,.int .i64 rev,.int .i64 group,.int .i64 rank] σ (eAtoms (l.take k ++ newAtoms rev group rank (ptsOf s) ++ l.drop k)) σ:=by
 refine bare_call (by simp only [AVal.pures,eAtoms_pure];rfl) (eAtoms_pure _) (fun W F=>spec_of_awp mixed c_palinoderef17_Put (tl rfl) ?_) σ
 unfold f_palinoderef17_Put
 have hcp:=fun τ=>rcopy_call τ l (by omega) hc
 have hpt:=fun τ=>rpoints_call τ s (by omega) hv
 have hpl:(ptsOf s).length≤s.length:=by
  obtain ⟨ps,hp⟩:∃ ps,pts s=some ps:=Option.isSome_iff_exists.1 hv
  rw [ptsOf,hp];exact pts_len _ s ps (Nat.le_refl _) hp
 simp only [eAtoms] at hcp
 simp +decide only [↓evd,evw,reduceCtorEq,↓reduceIte,eAtoms]
 refine MSpec.of (hcp _) ?_
 have m1:¬((l.length:Int)<(k:Int)):=by omega
 have q1:=slcA_take hk
 have q2:=slcA_drop hk
 have hmax:(if 0<(k:Int) then (k:Int) else 0)=(k:Int):=by split <;> omega
 simp +decide only [↓evd,evw,evz,reduceCtorEq,↓reduceIte,m1]
 refine MSpec.of (hpt _) ?_
 have hA0:AtomsDat ⟨W,F,.nil,0⟩ .nils [] []:=⟨rfl,Own.nil _ _ _ _,fun j a z h=>by simp at h⟩
 obtain ⟨x0,τ0,zs0,g1,g2,g3,g4⟩:=hA0.app (l.take k) (by simp;omega)
 rw [List.nil_append] at g2
 generalize ptsOf s=ps at hpl
 have hfin:∀ rest:List Atom,eAtoms rest= .fsl 5 (rest.map eAtom):=fun _=>rfl
 simp +decide only [↓evd,evw,reduceCtorEq,↓reduceIte,hmax,q1,g1]
 refine awp_loop (fun m fr τ=>∃ (i:Nat) (zs:List AVal),m+i=ps.length∧fr.get 3= .int .i64 rev∧fr.get 4= .int .i64 group∧fr.get 5= .int .i64 rank∧fr.get 13= .fsl 5 (l.map eAtom)∧fr.get 14= .int .i64 (k:Nat)∧fr.get 15= .fsl 1 (ps.map AVal.str)∧fr.get 17= .int .i64 (i:Nat)∧AtomsDat τ (fr.get 16) (l.take k ++ newAtoms rev group rank (ps.take i)) zs∧τ.W=W∧τ.F0=F) ?_ (m:=ps.length) ?_
 ·rintro m fr τ ⟨i,zs,hi,e3,e4,e5,e13,e14,e15,e17,hA,hW,hF⟩
  generalize hx:fr.get 16=x at hA
  have hlen:(l.take k ++ newAtoms rev group rank (ps.take i)).length≤800000:=by simp [newAtoms];omega
  by_cases hlt:i<ps.length
  ·have hlt':(i:Int)<(ps.length:Int):=by omega
   have hw:=wrap_succ (i:=i) (by omega)
   have hg:=map_get AVal.str ps i hlt
   have htk:=List.take_succ_eq_append_getElem hlt
   generalize ps[i]=t at hg htk
   obtain ⟨x',τ',zs',p1,p2,p3,p4⟩:=hA.new1 t rev group rank (by omega)
   simp +decide only [↓evd,evw,evz,reduceCtorEq,↓reduceIte,e3,e4,e5,e13,e14,e15,e17,hx,hlt',hg,p1,hw]
   refine ⟨m - 1,by omega,i+1,zs',by omega,rfl,?_,p3.trans hW,p4.trans hF⟩
   rw [htk,newAtoms,List.map_append,← List.append_assoc]
   exact p2
  ·have hlt':¬(i:Int)<(ps.length:Int):=by omega
   have ht:ps.take i=ps:=List.take_of_length_le (by omega)
   rw [ht] at hA hlen
   obtain ⟨x',τ',zs',p1,p2,p3,p4⟩:=hA.app (l.drop k) (by have:=List.length_drop (i:=k) (l:=l);omega)
   obtain ⟨ρ,s1,s2,s3⟩:=p2.sees
   simp +decide only [↓evd,evw,evz,reduceCtorEq,↓reduceIte,e13,e14,e15,e17,hx,hlt',q2,p1]
   exact ⟨ρ,s1,s2.trans (p3.trans hW),s3.trans (p4.trans hF)⟩
 ·refine ⟨0,zs0,by omega,?_⟩
  simp +decide only [evw,↓reduceIte]
  have e0:l.take k ++ newAtoms rev group rank []=l.take k:=List.append_nil _
  rw [e0]
  first | exact ⟨rfl,g2,g3,g4⟩ | exact ⟨g2,g3,g4⟩
theorem AtomsRow.mark {B:Nat} {τ σ':Heap} {K:Nat} {l:List Atom} {zs:List AVal} {i:Nat} {a:Atom} {z x':AVal} {ks:List Cut} (h:AtomsRow B τ (.slc (.new K) 0 l.length (.gr 5)) l zs) (ha:l[i]? =some a) (hz:zs[i]? =some z)
  (hv:Own B σ' t_Cut 2 x' (ks.map eCut)) (hn:τ.next≤σ'.next) (hg:∀ q,q<τ.next→q∉uid z→σ'.get q=τ.get q) (hu:∀ k∈uid x',τ.next≤k∨k∈uid z):
  AtomsRow B (σ'.set K (.cells (flatR l (zs.set i x')) (some t_Atom))) (.slc (.new K) 0 l.length (.gr 5)) (l.set i {a with cuts:=ks}) (zs.set i x'):=by
 have hil:=(List.getElem?_eq_some_iff.1 ha).1
 have hiz:=(List.getElem?_eq_some_iff.1 hz).1
 have hlen:=h.len
 have hll:(l.set i {a with cuts:=ks}).length=l.length:=List.length_set
 have hKr:B≤K∧K<τ.next:=h.row.low rfl
 have hoff:∀ (j:Nat) (y:AVal),zs[j]? =some y→K∉uid y:=fun j y hy hm=>h.off j y hy K (by simp [uid]) hm
 have hux:K∉uid x':=fun hm=>by
  rcases hu K hm with h1 | h1
  ·omega
  ·exact hoff i z hz h1
 have hmove:∀ {y:AVal} {els:List AVal},Own B σ' t_Cut 2 y els→K∉uid y→Own B (σ'.set K (.cells (flatR l (zs.set i x')) (some t_Atom))) t_Cut 2 y els:=fun hy hK=>
  Own.set hy (fun K' o n c e hk=>hK (mem_uid.2 ⟨o,n,c,by rw [hk];exact e⟩)) _
 refine ⟨by rw [List.length_set,hll];exact hlen,?_,?_,?_,?_⟩
 ·refine ⟨?_,.inr ⟨K,?_,?_,hKr.1,by simp only [Heap.set_next];omega⟩⟩
  ·intro e he
   have:∀ (l:List Atom) (zs:List AVal),∀ e∈rowZ l zs,e.cells.length=5:=by
    intro l
    induction l with
    | nil=>intro zs e he;cases zs <;> cases he
    | cons b l ih=>
     intro zs e he
     cases zs with
     | nil=>cases he
     | cons y zs=>
      simp only [rowZ,List.mem_cons] at he
      rcases he with rfl | he
      ·rfl
      ·exact ih zs e he
   exact this _ _ e he
  ·rw [rowZ_len (by rw [List.length_set,hll];exact hlen),hll]
  ·rw [Heap.get_set,if_pos rfl,rowZ_flat,flatR_cuts ha]
 ·intro j b y hb hy
  by_cases e:j=i
  ·subst e
   rw [List.getElem?_set_self hiz] at hy
   rw [List.getElem?_set_self hil] at hb
   cases hy;cases hb
   exact hmove hv hux
  ·rw [List.getElem?_set_ne (fun h=>e h.symm)] at hy hb
   have h1:=h.own j b y hb hy
   refine hmove (Own.move h1 hn fun K' o n c he=>?_) (hoff j y hy)
   have hk':K'∈uid y:=mem_uid.2 ⟨_,_,_,he⟩
   refine hg K' (h1.low he).2 fun hk2=>?_
   rcases Nat.lt_or_gt_of_ne e with e | e
   ·exact h.apart j i y z e hy hz K' hk' hk2
   ·exact h.apart i j z y e hz hy K' hk2 hk'
 ·intro j j' y y' hjj hy hy' k hk hk'
  by_cases e:j=i
  ·subst e
   rw [List.getElem?_set_self hiz] at hy
   cases hy
   rw [List.getElem?_set_ne (by omega)] at hy'
   have hj':j'<l.length:=by rw [← hlen];exact (List.getElem?_eq_some_iff.1 hy').1
   rcases hu k hk with h1 | h1
   ·have:=(own_low (h.own j' l[j'] y' (List.getElem?_eq_getElem hj') hy') k hk').2;omega
   ·exact h.apart j j' z y' hjj hz hy' k h1 hk'
  ·rw [List.getElem?_set_ne (fun h=>e h.symm)] at hy
   have hjl:j<l.length:=by rw [← hlen];exact (List.getElem?_eq_some_iff.1 hy).1
   by_cases e':j'=i
   ·subst e'
    rw [List.getElem?_set_self hiz] at hy'
    cases hy'
    rcases hu k hk' with h1 | h1
    ·have:=(own_low (h.own j l[j] y (List.getElem?_eq_getElem hjl) hy) k hk).2;omega
    ·exact h.apart j j' y z hjj hy hz k hk h1
   ·rw [List.getElem?_set_ne (fun h=>e' h.symm)] at hy'
    exact h.apart j j' y y' hjj hy hy' k hk hk'
 ·intro j y hy k hk hk2
  simp only [uid,List.mem_singleton] at hk
  subst hk
  by_cases e:j=i
  ·subst e
   rw [List.getElem?_set_self hiz] at hy
   cases hy
   exact hux hk2
  ·rw [List.getElem?_set_ne (fun h=>e h.symm)] at hy
   exact hoff j y hy hk2
theorem own_cut {B:Nat} {σ:Heap} {z:AVal} {cs:List Cut} (h:Own B σ t_Cut 2 z (cs.map eCut)) (hB:B≤σ.next) (hl:cs.length≤1000000) (c:Cut):
  ∃ x' σ',aApp t_Cut 2 16 z (.slc (.new σ.next) 0 1 (.ex 1)) (σ.new (.cells [.int .i64 c.rev,.int .i64 c.group] none))=some (x',σ')∧Own B σ' t_Cut 2 x' ((cs ++ [c]).map eCut)∧σ'.W=σ.W∧σ'.F0=σ.F0∧σ.next<σ'.next∧
   (∀ q,q<σ.next→q∉uid z→σ'.get q=σ.get q)∧(∀ K∈uid x',σ.next≤K∨K∈uid z):=by
 have hsrc:=src_one (σ:=σ.new (.cells [.int .i64 c.rev,.int .i64 c.group] none)) (K:=σ.next) (k:=2) (cs:=[.int .i64 c.rev,.int .i64 c.group]) (opn:=none) (z:=eCut c) (cap:= .ex 1) (by rw [Heap.get_new,if_pos rfl]) rfl rfl
 obtain ⟨x',ρ,g1,g2,g3,g4,g5⟩:=own_app2 (bytes:=16) (h.new (.cells [.int .i64 c.rev,.int .i64 c.group] none)) (Nat.le_succ_of_le hB) hsrc.1 hsrc.2 (by intro z hz;simp at hz;subst hz;rfl) rfl (by omega) (by omega) (by unfold maxRoom;simp;omega)
 refine ⟨x',ρ,g1,by rw [List.map_append];exact g2,g3.1,g3.2.1,by have:=g3.2.2.1;simp at this;omega,fun q hq hn=>?_,fun K hK=>?_⟩
 ·rw [g4 q (by simp;omega) (fun K o n c e hk=>hn (mem_uid.2 ⟨o,n,c,by rw [hk];exact e⟩)),Heap.get_new,if_neg (by omega)]
 ·obtain ⟨o,n,c',e⟩:=mem_uid.1 hK
  rcases g5 K o n c' e with h1 | ⟨o',n',c'',h1⟩
  ·exact .inl (Nat.le_of_succ_le h1)
  ·exact .inr (mem_uid.2 ⟨_,_,_,h1⟩)
theorem cutsF_rise (rev : Int) (u : List Int) (cs : List Chg) : ∀ (l : List Atom) (ps : List Int) (i : Nat), (cutsF rev u cs l ps i).Pairwise (· < ·)
  | [], ps, i => by simp [cutsF]
  | a :: l, [], i => by simp [cutsF]
  | a :: l, p :: ps, i => by
    rw [cutsF, List.pairwise_append]
    refine ⟨by split <;> simp, cutsF_rise rev u cs l ps (i + 1), fun x hx y hy => ?_⟩
    obtain ⟨j, rfl, h1, h2⟩ := cutsF_lt rev u cs l ps (i + 1) y hy
    split at hx
    · rw [List.mem_singleton] at hx; subst hx; omega
    · cases hx
theorem cuts_rise (l : List Atom) (rev : Int) (u : List Int) (cs : List Chg) : (cuts l rev u cs).Pairwise (· < ·) := by
  rw [cuts]; split
  · exact cutsF_rise _ _ _ _ _ _
  · exact List.Pairwise.nil
theorem marked_step {ct : List Int} {c : Cut} {l : List Atom} {i j : Nat} (hp : ct.Pairwise (· < ·)) (hi : i < ct.length) (hj : ct[i] = (j : Int)) (hjl : j < l.length) :
    (marked (ct.take i) c l 0)[j]? = some l[j] ∧ marked (ct.take (i + 1)) c l 0 = (marked (ct.take i) c l 0).set j { l[j] with cuts := l[j].cuts ++ [c] } := by
  have hnot : (j : Int) ∉ ct.take i := fun hm => by
    obtain ⟨q, hq, he⟩ := List.mem_iff_getElem.1 hm
    rw [List.length_take] at hq
    rw [List.getElem_take] at he
    have := List.pairwise_iff_getElem.1 hp q i (by omega) hi (by omega)
    omega
  have h1 : (marked (ct.take i) c l 0)[j]? = some l[j] := by
    rw [marked_get, List.getElem?_eq_getElem hjl, Nat.zero_add, Option.map_some, if_neg hnot]
  refine ⟨h1, ?_⟩
  apply List.ext_getElem?
  intro q
  rw [marked_get, List.take_succ_eq_append_getElem hi, hj, Nat.zero_add, List.getElem?_set, marked_len]
  by_cases e : j = q
  · subst e
    rw [if_pos rfl, if_pos hjl, List.getElem?_eq_getElem hjl, Option.map_some, if_pos (by simp)]
  · rw [if_neg e, marked_get, Nat.zero_add]
    congr 1
    funext a
    have : (((q : Nat) : Int) ∈ ct.take i ++ [(j : Int)]) ↔ ((q : Nat) : Int) ∈ ct.take i := by
      rw [List.mem_append, List.mem_singleton]
      exact ⟨fun h => h.elim id fun h => absurd (by omega) e, .inl⟩
    simp only [this]
theorem marked_none0 (c:Cut) (l:List Atom):marked [] c l 0=l:=by
 apply List.ext_getElem?
 intro q
 rw [marked_get];cases l[q]? <;> simp
theorem merged_split {new:List UInt8→List Atom} {mk:List Atom} {s:Nat}:∀ {rs:List (Nat × List UInt8)},(∀ kt∈rs,s≤kt.1)→merged new mk rs 0=mk.take s ++ merged new mk rs s
 | [],_=>by simp [merged]
 | (k,t)::r,h=>by
  have hk:s≤k:=h (k,t) (by simp)
  rw [merged_cons,merged_cons,List.drop_zero,← List.append_assoc,← List.append_assoc]
  congr 2
  conv=>lhs;rw [← List.take_append_drop s (mk.take k)]
  rw [List.take_take,Nat.min_eq_left hk]
theorem put_step {new:List UInt8→List Atom} {mk:List Atom} {s:Nat} {t:List UInt8} {rs:List (Nat × List UInt8)} (h:∀ kt∈rs,s≤kt.1) (hs:s≤mk.length):
  (merged new mk rs 0).take s ++ new t ++ (merged new mk rs 0).drop s=merged new mk ((s,t)::rs) 0:=by
 have hl:(mk.take s).length=s:=by rw [List.length_take];omega
 rw [merged_split h,List.take_left' hl,List.drop_left' hl,merged_cons,List.drop_zero]
theorem ptsOf_len (t:List UInt8):(ptsOf t).length≤t.length:=by
 rw [ptsOf]
 cases hp:pts t with
 | none=>simp
 | some ps=>exact pts_len _ t ps (Nat.le_refl _) hp
set_option maxHeartbeats 8000000 in
theorem rupon_call (σ:Heap) (l:List Atom) (rev:Int) (u:List Int) (cs:List Chg) (now group rank:Int) (hu:u.length≤1000000) (hl:Fits l) (hll:l.length≤50000) (hlc:∀ a∈l,a.cuts.length≤100000) (hc5:∀ c∈cs,c.text.length≤5000) (h0:check (atomsText rev u l) cs=0):
  ACall Tryz.prog n_palinoderef17_Upon [eAtoms l,.int .i64 rev,ints u,eChgs cs,.int .i64 now,.int .i64 group,.int .i64 rank] σ (eAtoms (upon l rev u cs now group rank)) σ:=by
 refine bare_call (by simp only [AVal.pures,eAtoms_pure,ints_pure,eChgs_pure];rfl) (eAtoms_pure _) (fun W F=>spec_of_xwp c_palinoderef17_Upon (tl rfl) ?_) σ
 unfold f_palinoderef17_Upon
 have h8:=(check_zero h0).2.1
 have hvt:=(check_zero h0).2.2.2.2.2.1
 have hroom:maxRoom=68719476736:=rfl
 have hc':∀ c∈cs,ChgFits c:=fun c h=>by have:=hc5 c h;unfold ChgFits;omega
 have hcu:=rcuts_call ⟨W,F,.nil,0⟩ l rev u cs hu hl (by omega) (by omega) hc'
 have hsp:=rspots_call ⟨W,F,.nil,0⟩ l rev u cs rank hu hl (by omega) hc'
 have hcp:=rcopy_spec ⟨W,F,.nil,0⟩ l (by omega) (fun a h=>by have:=hlc a h;omega)
 have hupon:upon l rev u cs now group rank=merged (fun t=>newAtoms now group rank (ptsOf t)) (marked (cuts l rev u cs) ⟨now,group⟩ l 0) ((spotsN l rev u cs rank).zip (cs.map Chg.text)) 0:=by rw [upon,if_pos h0]
 have hse:=spots_eq rank h0
 obtain ⟨hs1,hs2⟩:=spotsN_sorted rank h0
 have hsl:(spotsN l rev u cs rank).length=cs.length:=by rw [spotsN,List.length_map]
 have hct:=cuts_rise l rev u cs
 have hctl:∀ x∈cuts l rev u cs,∃ j:Nat,x=(j:Int)∧j<l.length:=fun x hx=>cuts_lt hx
 have hctn:=cuts_len l rev u cs
 rw [hupon]
 rw [hse] at hsp
 generalize cuts l rev u cs=ct at hcu hct hctl hctn
 generalize spotsN l rev u cs rank=sN at hsp hs1 hs2 hsl
 simp only [eAtoms,ints,eChgs] at hcu hsp
 simp only [eAtoms] at hcp
 refine x_seq mixed ?_
 simp +decide only [↓evd,evw,evz,reduceCtorEq]
 refine x_seq mixed ?_
 simp +decide only [↓evd,evw,reduceCtorEq,↓reduceIte]
 refine MSpec.of hcu ?_
 simp +decide only [↓evd,evw,reduceCtorEq,↓reduceIte]
 refine x_seq mixed ?_
 simp +decide only [↓evd,evw,reduceCtorEq,↓reduceIte]
 refine MSpec.of hsp ?_
 simp +decide only [↓evd,evw,reduceCtorEq,↓reduceIte]
 refine x_seq mixed ?_
 simp +decide only [↓evd,evw,reduceCtorEq,↓reduceIte]
 refine hcp.mono ?_
 rintro v τ0 ⟨zs0,hA0,hK0⟩
 simp +decide only [↓evd,evw,reduceCtorEq,↓reduceIte]
 refine x_seq mixed ?_
 simp +decide only [↓evd,evw,reduceCtorEq]
 have hW0:τ0.W=W:=hK0.1
 have hF0:τ0.F0=F:=hK0.2.1
 clear hcu hsp hcp hK0
 refine awp_loop (fun m fr τ=>∃ (i:Nat) (zs:List AVal),m+i=ct.length∧fr.get 3=eChgs cs∧fr.get 4= .int .i64 now∧fr.get 5= .int .i64 group∧fr.get 6= .int .i64 rank∧fr.get 15=ints ct∧fr.get 16=ints (sN.map fun n:Nat=>(n:Int))∧fr.get 18= .int .i64 (i:Nat)∧AtomsRow 0 τ (fr.get 17) (marked (ct.take i) ⟨now,group⟩ l 0) zs∧τ.W=W∧τ.F0=F) ?_ (m:=ct.length) ?_
 ·rintro m fr τ ⟨i,zs,hi,e3,e4,e5,e6,e15,e16,e18,hA,hW,hF⟩
  generalize hx:fr.get 17=x at hA
  by_cases hlt:i<ct.length
  ·have hlt':(i:Int)<(ct.length:Int):=by omega
   have hw:=wrap_succ (i:=i) (by omega)
   have hgt:=map_get (AVal.int .i64 ·) ct i hlt
   obtain ⟨j,hj,hjl⟩:=hctl _ (List.getElem_mem hlt)
   obtain ⟨hm1,hm2⟩:=marked_step (c:=⟨now,group⟩) hct hlt hj hjl
   rw [hj] at hgt
   have hml:=marked_len (ct.take i) ⟨now,group⟩ l 0
   generalize marked (ct.take i) ⟨now,group⟩ l 0=L at hA hm1 hm2 hml
   have hla:=hlc _ (List.getElem_mem hjl)
   generalize l[j]=a at hm1 hm2 hla
   have hzl:=hA.len
   obtain ⟨K,rfl⟩:∃ K,x= .slc (.new K) 0 L.length (.gr 5):=by
    rcases hA.row.2 with ⟨_,h1⟩ | ⟨K,h1,_⟩
    ·have:=rowZ_len hzl;rw [h1] at this;simp at this;omega
    ·rw [rowZ_len hzl] at h1;exact ⟨K,h1⟩
   have hKr:0≤K∧K<τ.next:=hA.row.low rfl
   have hblk:τ.get K=some (.cells (flatR L zs) (some t_Atom)):=by
    rcases hA.row.2 with ⟨h1,_⟩ | ⟨K',h1,h2,_⟩
    ·cases h1
    ·have hkk:K=K':=by injection h1 with q;injection q
     subst hkk;rw [rowZ_flat] at h2;exact h2
   have hjz:j<zs.length:=by omega
   have hz:zs[j]? =some zs[j]:=List.getElem?_eq_getElem hjz
   have hoff:=hA.off j zs[j] hz K (by simp [uid])
   have hown:=hA.own j a zs[j] hm1 hz
   have hcell:(flatR L zs)[j * 5+4]? =some zs[j]:=by rw [flatR_get hzl,hz]
   generalize zs[j]=z at hz hoff hown hcell
   obtain ⟨x',σ',g1,g2,g3,g4,g5,g6,g7⟩:=own_cut hown (Nat.zero_le _) (by omega) ⟨now,group⟩
   have hbl2:σ'.get K=some (.cells (flatR L zs) (some t_Atom)):=by rw [g6 K hKr.2 hoff];exact hblk
   have hmk:=hA.mark hm1 hz g2 (Nat.le_of_lt g5) g6 g7
   rw [← hm2] at hmk
   have hjL:(j:Int)<(L.length:Int):=by omega
   have hlen2:=flatR_len (l:=L) (zs:=zs) hzl
   have hle:decide (j * 5+4+1≤(flatR L zs).length)=true:=by rw [hlen2];simp;omega
   have hov:=over_set (l:=flatR L zs) (j:=j * 5+4) (x:=x') (by omega)
   rw [flatR_set hzl] at hov
   obtain ⟨K',n',rfl⟩:∃ K' n',x'= .slc (.new K') 0 n' (.gr 2):=by
    rcases g2.2 with ⟨_,h1⟩ | ⟨K',h1,_⟩
    ·simp at h1
    ·exact ⟨K',_,h1⟩
   simp +decide only [↓evd,evw,evz,reduceCtorEq,↓reduceIte,e15,e18,hlt']
   with_reducible refine draw_of_grow (fun q=>q=K) (ms:=[false,false,false,false,false,false,false,false,false,false,false,false,false,false,false,false,false,false,false,false,true]) (by kernel_rfl) ?_
   simp +decide only [↓evd,evw,evz,reduceCtorEq,↓reduceIte,e4,e5,e15,e18,hx,hgt,hjL,hblk,hcell]
   refine ⟨.inr (keeps_new (fun q hq=>by subst hq;exact hKr.2) _),?_⟩
   simp +decide only [↓evd,evw,reduceCtorEq,↓reduceIte,g1]
   refine ⟨.inr ⟨by rw [g3,Heap.new_W],fun q hq=>by subst hq;rw [hbl2,Heap.get_new,if_neg (by omega),hblk]⟩,?_⟩
   simp +decide only [↓evd,evw,evz,reduceCtorEq,↓reduceIte,e3,e4,e5,e6,e15,e16,e18,hx,hjL,hbl2,hle,hov,hw]
   exact ⟨m - 1,by omega,i+1,_,by omega,rfl,hmk,g3.trans hW,g4.trans hF⟩
  ·have hlt':¬(i:Int)<(ct.length:Int):=by omega
   have hti:ct.take i=ct:=List.take_of_length_le (by omega)
   rw [hti] at hA
   have hmkl:=marked_len ct ⟨now,group⟩ l 0
   have hmkc:∀ a∈marked ct ⟨now,group⟩ l 0,a.cuts.length≤100001:=fun a ha=>by
    obtain ⟨b,hb,rfl | rfl⟩:=mem_marked ha
    ·have:=hlc _ hb;omega
    ·have:=hlc _ hb;simp only [List.length_append,List.length_cons,List.length_nil];omega
   generalize marked ct ⟨now,group⟩ l 0=mk at hA hmkl hmkc
   obtain ⟨ρ,s1,s2,s3,s4,s5⟩:=hA.sees
   simp +decide only [↓evd,evw,evz,reduceCtorEq,↓reduceIte,e15,e18,hlt']
   refine x_freeze (FSees.reg (t:=17) (by decide) (by simp +decide only [evw,↓reduceIte,hx]) s1) ?_
   refine x_of_awp mixed ?_
   have hWρ:ρ.W=W:=s2.trans hW
   have hFρ:ρ.F0=F:=s3.trans hF
   obtain ⟨rs,hrs⟩:∃ rs,rs=sN.zip (cs.map Chg.text):=⟨_,rfl⟩
   have hrl:rs.length=sN.length:=by rw [hrs,List.length_zip,List.length_map,hsl,Nat.min_self]
   have hw0:IntKind.i64.wrap ((sN.length:Int) - 1)=(sN.length:Int) - 1:=wrap_id (by omega) (by omega)
   rw [← hrs]
   simp +decide only [↓evd,evw,evz,reduceCtorEq,↓reduceIte,e16,hw0]
   refine awp_loop (fun m fr τ=>∃ (x:Int),m≤sN.length∧x=(m:Int) - 1∧fr.get 3=eChgs cs∧fr.get 4= .int .i64 now∧fr.get 5= .int .i64 group∧fr.get 6= .int .i64 rank∧fr.get 16=ints (sN.map fun n:Nat=>(n:Int))∧fr.get 19= .int .i64 x∧fr.get 17=eAtoms (merged (fun t=>newAtoms now group rank (ptsOf t)) mk (rs.drop m) 0)∧(merged (fun t=>newAtoms now group rank (ptsOf t)) mk (rs.drop m) 0).length+m * 5000≤l.length+sN.length * 5000∧τ.W=W∧τ.F0=F) ?_ (m:=sN.length) ?_
   ·clear e3 e4 e5 e6 e15 e16 e18 hx hlt hlt' hi
    rintro m fr τ ⟨x,hm,hxm,e3,e4,e5,e6,e16,e19,e17,hlen,hW,hF⟩
    cases m with
    | succ j=>
     obtain rfl:x=(j:Int):=by omega
     have hjl:j<sN.length:=by omega
     have hjc:j<cs.length:=by omega
     have hge:(0:Int)≤(j:Int):=by omega
     have hwm1:IntKind.i64.wrap ((j:Int) - 1)=(j:Int) - 1:=wrap_id (by omega) (by omega)
     have hgs:((sN.map fun n:Nat=>(n:Int)).map (AVal.int .i64 ·))[j]? =some (.int .i64 (sN[j]:Nat)):=by simp [hjl]
     have hgc:=map_get eChg cs j hjc
     have hdr:rs.drop j=(sN[j],cs[j].text)::rs.drop (j+1):=by
      rw [List.drop_eq_getElem_cons (by omega)]
      congr 1
      simp only [hrs,List.getElem_zip,List.getElem_map]
     have hle:∀ kt∈rs.drop (j+1),sN[j]≤kt.1:=fun kt hkt=>by
      obtain ⟨q,hq,he⟩:=List.mem_iff_getElem.1 hkt
      rw [List.length_drop] at hq
      have he2:kt.1=sN[j+1+q]'(by omega):=by
       rw [← he,List.getElem_drop];simp only [hrs,List.getElem_zip]
      rw [he2]
      exact List.pairwise_iff_getElem.1 hs1 j (j+1+q) hjl (by omega) (by omega)
     have hsj:=hs2 _ (List.getElem_mem hjl)
     have hvj:=hvt _ (List.getElem_mem hjc)
     have ht5:=hc5 _ (List.getElem_mem hjc)
     have hst:=put_step (new:=fun t=>newAtoms now group rank (ptsOf t)) (mk:=mk) (t:=cs[j].text) hle (by omega)
     rw [← hdr] at hst
     have hspl:=merged_split (new:=fun t=>newAtoms now group rank (ptsOf t)) (mk:=mk) hle
     have hmemO:∀ a∈merged (fun t=>newAtoms now group rank (ptsOf t)) mk (rs.drop (j+1)) 0,a.cuts.length≤1000000:=fun a ha=>by
      rcases mem_merged ha with h | ⟨kt,_,h⟩
      ·have:=hmkc a h;omega
      ·simp only [newAtoms] at h
       obtain ⟨b,_,rfl⟩:=List.mem_map.1 h
       simp
     have hOl:sN[j]≤(merged (fun t=>newAtoms now group rank (ptsOf t)) mk (rs.drop (j+1)) 0).length:=by
      rw [hspl,List.length_append,List.length_take];omega
     generalize merged (fun t=>newAtoms now group rank (ptsOf t)) mk (rs.drop (j+1)) 0=O at e17 hlen hst hmemO hOl
     have hput:=rput_call τ O sN[j] cs[j].text now group rank hOl (by omega) hmemO (by omega) hvj
     rw [hst] at hput
     have hnl:(merged (fun t=>newAtoms now group rank (ptsOf t)) mk (rs.drop j) 0).length+j * 5000≤l.length+sN.length * 5000:=by
      rw [← hst]
      have h1:=ptsOf_len cs[j].text
      simp only [List.length_append,List.length_take,List.length_drop,newAtoms,List.length_map]
      omega
     obtain ⟨O',hO'⟩:∃ O',O'=merged (fun t=>newAtoms now group rank (ptsOf t)) mk (rs.drop j) 0:=⟨_,rfl⟩
     rw [← hO'] at hput hnl
     clear hdr hle hsj hst hspl
     generalize cs[j]=c at hgc hput
     generalize sN[j]=p at hgs hput
     simp only [eAtoms] at hput
     simp +decide only [↓evd,evw,evz,reduceCtorEq,↓reduceIte,e19,hge]
     with_reducible refine draw_of_grow (fun _=>True) (ms:=[false,false,false,false,false,false,false,false,false,false,false,false,false,false,false]) (by kernel_rfl) ?_
     simp +decide only [↓evd,evw,evz,↓reduceIte,e3,e4,e5,e6,e16,e17,e19,hgs,hgc,eChg]
     refine MSpec.of hput ⟨.inr Keeps.rfl,?_⟩
     simp +decide only [↓evd,evw,evz,reduceCtorEq,↓reduceIte,e3,e4,e5,e6,e16,e19,hwm1]
     exact ⟨j,by omega,_,by omega,rfl,rfl,by rw [hO'],by rw [← hO'];exact hnl,hW,hF⟩
    | zero=>
     obtain rfl:x= -1:=by omega
     have hge:¬(0:Int)≤ -1:=by omega
     rw [List.drop_zero] at e17
     simp +decide only [↓evd,evw,evz,reduceCtorEq,↓reduceIte,e17,e19]
     exact seen rfl hW hF
   ·refine ⟨_,Nat.le_refl _,rfl,?_⟩
    simp +decide only [evw,evz,↓reduceIte,e3,e4,e5,e6,e16]
    have hdn:rs.drop sN.length=[]:=List.drop_eq_nil_of_le (by omega)
    rw [hdn]
    simp only [merged,List.drop_zero]
    exact ⟨trivial,by omega,hWρ,hFρ⟩
 ·refine ⟨0,zs0,by omega,?_⟩
  simp +decide only [evw,evz,↓reduceIte,eChgs]
  rw [marked_none0]
  first | exact ⟨rfl,rfl,hA0,hW0,hF0⟩ | exact ⟨rfl,hA0,hW0,hF0⟩ | exact ⟨hA0,hW0,hF0⟩
def refCells (a b:Nat) (P:Nat→Bool) (u:AVal):List AVal:= .int .i64 (a:Nat)::.int .i64 (b:Nat)::(bitRow 120 P ++ [u])
section
variable {a b:Nat} {P:Nat→Bool} {u:AVal}
theorem rc_len:(refCells a b P u).length=123:=by simp [refCells,bitRow_len]
theorem rc_0:(refCells a b P u)[0]? =some (.int .i64 (a:Nat)):=rfl
theorem rc_1:(refCells a b P u)[1]? =some (.int .i64 (b:Nat)):=rfl
theorem rc_bit {j:Nat} (h:j<120):(refCells a b P u)[j+2]? =some (.bool (P j)):=by
 simp only [refCells,List.getElem?_cons_succ]
 rw [List.getElem?_append_left (by rw [bitRow_len];exact h),bitRow_get _ h]
theorem rc_has {j:Nat} (h:j<60):(refCells a b P u)[2+j]? =some (.bool (P j)):=by rw [Nat.add_comm];exact rc_bit (by omega)
theorem rc_gone {j:Nat} (h:j<60):(refCells a b P u)[62+j]? =some (.bool (P (60+j))):=by rw [show 62+j=60+j+2 by omega];exact rc_bit (by omega)
theorem rc_u:(refCells a b P u)[122]? =some u:=by
 simp only [refCells,List.getElem?_cons_succ]
 rw [List.getElem?_append_right (by rw [bitRow_len];omega),bitRow_len];rfl
theorem rc_set0 (a':Nat):AVal.int .i64 (a':Nat)::(refCells a b P u).drop 1=refCells a' b P u:=rfl
theorem rc_setu (x:AVal):(refCells a b P u).take 122 ++ [x] ++ (refCells a b P u).drop 123=refCells a b P x:=by
 simp only [refCells,List.take_succ_cons,List.drop_succ_cons,List.cons_append]
 rw [List.take_append_of_le_length (by rw [bitRow_len];omega),List.take_of_length_le (by rw [bitRow_len];omega),List.drop_eq_nil_of_le (by simp [bitRow_len]),List.append_nil]
theorem rc_setb {j:Nat} (h:j<120) (c:Bool):(refCells a b P u).take (j+2) ++ [AVal.bool c] ++ (refCells a b P u).drop (j+2+1)=refCells a b (fun k=>if k=j then c else P k) u:=by
 simp only [refCells,List.take_succ_cons,List.drop_succ_cons,List.cons_append]
 rw [List.take_append_of_le_length (by rw [bitRow_len];omega),List.drop_append_of_le_length (by rw [bitRow_len];omega),← List.append_assoc,bitRow_set P c h]
theorem rc_sethas {j:Nat} (h:j<60) (c:Bool):(refCells a b P u).take (2+j) ++ [AVal.bool c] ++ (refCells a b P u).drop (2+j+1)=refCells a b (fun k=>if k=j then c else P k) u:=by
 rw [Nat.add_comm 2 j];exact rc_setb (by omega) c
theorem rc_setgone {j:Nat} (h:j<60) (c:Bool):(refCells a b P u).take (62+j) ++ [AVal.bool c] ++ (refCells a b P u).drop (62+j+1)=refCells a b (fun k=>if k=60+j then c else P k) u:=by
 rw [show 62+j=60+j+2 by omega];exact rc_setb (by omega) c
end
def Lst (x:AVal) (l:List Int):Prop:=x=ints l∨(x= .nils∧l=[])
theorem Lst.sees {x:AVal} {l:List Int} (h:Lst x l) (σ:Heap):Sees σ x σ (ints l):=by
 rcases h with rfl | ⟨rfl,rfl⟩
 ·exact Sees.refl _ _
 ·exact Sees.nils σ 1
theorem Lst.len {x:AVal} {l:List Int} (h:Lst x l):aLen x=some (.int .i64 (l.length:Nat)):=by
 rcases h with rfl | ⟨rfl,rfl⟩
 ·simp [ints,aLen_fsl]
 ·rfl
theorem Lst.cells {x:AVal} {l:List Int} (h:Lst x l):x.cells=[x]∧x.isCell=true∧x.isRaw=false:=by
 rcases h with rfl | ⟨rfl,rfl⟩ <;> exact ⟨rfl,rfl,rfl⟩
abbrev t_ints:TypeId:=33
structure RefAt (σ:Heap) (k:Nat) (R:Revs) (P:Nat→Bool) (u:AVal) (els:List AVal):Prop where
 blk:σ.get k=some (.cells (refCells R.head R.floor P u) none)
 row:Row 0 σ t_ints 1 u els
 ne:∀ K o n c,u= .slc (.new K) o n c→K≠k
 len:els.length=R.floor+R.und.length
 lst:∀ z∈els,∃ l,Lst z l
 at_:∀ (j:Nat) (s:List Int),R.und[j]? =some s→∃ x,els[R.floor+j]? =some x∧Lst x s
 has:∀ g:Nat,g<60→(P g && !P (60+g))=decide ((g:Int)∈R.grp)
 gone:∀ g:Nat,g<60→P (60+g)=decide ((g:Int)∈R.gone)
 low:k<σ.next
 ok:R.Ok
def IsRef (σ:Heap) (k:Nat) (R:Revs) (fp:List Nat):Prop:=∃ P u els,RefAt σ k R P u els∧fp=k::uid u
theorem lst_flat:∀ {els:List AVal},(∀ z∈els,∃ l,Lst z l)→els.flatMap AVal.cells=els
 | [],_=>rfl
 | z::els,h=>by
  obtain ⟨l,hl⟩:=h z (by simp)
  rw [List.flatMap_cons,hl.cells.1,lst_flat fun y hy=>h y (List.mem_cons_of_mem _ hy)];rfl
section
variable {σ:Heap} {k:Nat} {R:Revs} {P:Nat→Bool} {u:AVal} {els:List AVal}
theorem RefAt.lows (h:RefAt σ k R P u els):∀ x∈k::uid u,x<σ.next:=by
 intro x hx
 rcases List.mem_cons.1 hx with rfl | hx
 ·exact h.low
 ·obtain ⟨o,n,c,e⟩:=mem_uid.1 hx;exact (h.row.low e).2
theorem RefAt.move {τ:Heap} (h:RefAt σ k R P u els) (hn:σ.next≤τ.next) (hk:∀ q∈k::uid u,τ.get q=σ.get q):RefAt τ k R P u els where
 blk:=by rw [hk k (by simp)];exact h.blk
 row:=Row.move h.row hn fun K hK=>hk K (List.mem_cons_of_mem _ hK)
 ne:=h.ne
 len:=h.len
 lst:=h.lst
 at_:=h.at_
 has:=h.has
 gone:=h.gone
 low:=Nat.lt_of_lt_of_le h.low hn
 ok:=h.ok
theorem IsRef.keep {τ:Heap} {fp fp':List Nat} (h:IsRef σ k R fp) (hk:Keep fp' σ τ) (hd:∀ x∈fp,x∉fp'):IsRef τ k R fp:=by
 obtain ⟨P,u,els,h,rfl⟩:=h
 exact ⟨P,u,els,h.move hk.2.2.1 fun q hq=>hk.2.2.2 q (h.lows q hq) (hd q hq),rfl⟩
theorem IsRef.low {fp:List Nat} (h:IsRef σ k R fp):∀ x∈fp,x<σ.next:=by obtain ⟨P,u,els,h,rfl⟩:=h;exact h.lows
theorem IsRef.ok {fp:List Nat} (h:IsRef σ k R fp):R.Ok:=by obtain ⟨P,u,els,h,rfl⟩:=h;exact h.ok
theorem there_call (σ:Heap) (g:Int):ACall Tryz.prog n_palinoderef20_there [.int .i64 g] σ (.bool (decide (0≤g) && decide (g<60))) σ:=by
 refine exact_call (spec_of_awp mixed c_palinoderef20_there (tl rfl) ?_)
 unfold f_palinoderef20_there
 by_cases h1:0≤g
 ·simp +decide only [↓evd,evw,reduceCtorEq,↓reduceIte,h1]
 ·simp +decide only [↓evd,evw,reduceCtorEq,↓reduceIte,h1]
theorem there_in (g:Int):(decide (0≤g) && decide (g<60))=true↔∃ j:Nat,g=(j:Int)∧j<60:=by
 simp only [Bool.and_eq_true,decide_eq_true_eq]
 constructor
 ·rintro ⟨h0,h1⟩;exact ⟨g.toNat,by omega,by omega⟩
 ·rintro ⟨j,rfl,h⟩;omega
theorem is_call (h:RefAt σ k R P u els) (g:Int):ACall Tryz.prog n_palinoderef20_Revs_Is [.ptr (.new k) 0,.int .i64 g] σ (.bool (decide (g∈R.grp))) σ:=by
 refine exact_call (spec_of_awp mixed c_palinoderef20_Revs_Is (tl rfl) ?_)
 unfold f_palinoderef20_Revs_Is
 have hk:=h.blk
 have ht:=there_call σ g
 simp +decide only [↓evd,evw,reduceCtorEq,↓reduceIte]
 refine MSpec.of ht ?_
 by_cases hb:(decide (0≤g) && decide (g<60))=true
 ·obtain ⟨j,rfl,hj⟩:=(there_in g).1 hb
  have hh:=h.has j hj
  have h1:=aIdxR_lt (n:=60) (k:=1) (off:=2) (i:= .new k) (K:= .i64) hj
  have h2:=aIdxR_lt (n:=60) (k:=1) (off:=62) (i:= .new k) (K:= .i64) hj
  rw [← hh,hb]
  cases hp:P j with
  | true=>simp +decide only [↓evd,evw,reduceCtorEq,↓reduceIte,h1,h2,hk,rc_has hj,rc_gone hj,hp]
  | false=>simp +decide only [↓evd,evw,reduceCtorEq,↓reduceIte,h1,hk,rc_has hj,hp]
 ·have hb2:(decide (0≤g) && decide (g<60))=false:=by simpa using hb
  have hn:g∉R.grp:=fun hg=>by have:=h.ok.grp.2 g hg;apply hb;simp;omega
  rw [hb2,not_mem_bool hn]
  simp +decide only [↓evd,evw,reduceCtorEq,↓reduceIte]
theorem rlive_call (h:RefAt σ k R P u els) (n:Int):ACall Tryz.prog n_palinoderef20_Revs_Live [.ptr (.new k) 0,.int .i64 n] σ (.bool (R.live n)) σ:=by
 refine exact_call (spec_of_awp mixed c_palinoderef20_Revs_Live (tl rfl) ?_)
 unfold f_palinoderef20_Revs_Live
 have hk:=h.blk
 by_cases h1:(R.floor:Int)≤n
 ·simp +decide only [↓evd,evw,reduceCtorEq,↓reduceIte,hk,rc_0,rc_1,h1,Revs.live]
 ·simp +decide only [↓evd,evw,reduceCtorEq,↓reduceIte,hk,rc_1,h1,Revs.live]
theorem RefAt.load (h:RefAt σ k R P u els) {j:Nat} {s:List Int} (hj:R.und[j]? =some s):∃ K cap x,u= .slc (.new K) 0 (R.floor+R.und.length) cap∧R.floor+j<R.floor+R.und.length∧σ.cell (.new K) (R.floor+j)=some x∧Lst x s∧els[R.floor+j]? =some x∧x≠ .undef:=by
 obtain ⟨x,hx,hl⟩:=h.at_ j s hj
 have hlt:=(List.getElem?_eq_some_iff.1 hx).1
 rcases h.row.2 with ⟨_,h2⟩ | ⟨K,cap,cs,opn,h1,h2,h3,h4,h5,h6⟩
 ·rw [h2] at hlt;simp at hlt
 ·refine ⟨K,cap,x,by rw [h1,h.len],by rw [← h.len];exact hlt,?_,hl,hx,by rcases hl with rfl | ⟨rfl,_⟩ <;> (intro e;cases e)⟩
  have hfl:=lst_flat h.lst
  rw [Nat.mul_one,hfl] at h3
  have:(cs.take els.length)[R.floor+j]? =some x:=by rw [h3];exact hx
  rw [List.getElem?_take,if_pos hlt] at this
  simp only [Heap.cell,h2,this]
theorem rundone_call (h:RefAt σ k R P u els) (n:Int):ACall Tryz.prog n_palinoderef20_Revs_Undone [.ptr (.new k) 0,.int .i64 n] σ (ints (R.undone n)) σ:=by
 suffices hs:∃ x,Lst x (R.undone n)∧ACall Tryz.prog n_palinoderef20_Revs_Undone [.ptr (.new k) 0,.int .i64 n] σ x σ by
  obtain ⟨x,hx,ha⟩:=hs
  exact acall_see ha (hx.sees σ)
 have hk:=h.blk
 cases hl:R.live n with
 | false=>
  refine ⟨.nils,.inr ⟨rfl,by simp [Revs.undone,hl]⟩,?_⟩
  refine exact_call (spec_of_awp mixed c_palinoderef20_Revs_Undone (tl rfl) ?_)
  unfold f_palinoderef20_Revs_Undone
  simp +decide only [↓evd,evw,reduceCtorEq,↓reduceIte]
  refine MSpec.of (rlive_call h n) ?_
  simp +decide only [↓evd,evw,reduceCtorEq,↓reduceIte,hl]
 | true=>
  have hb:=live_iff.1 hl
  have hone:=List.length_pos_iff.2 h.ok.one
  obtain ⟨j,hj⟩:∃ j:Nat,n=((R.floor+j:Nat):Int):=⟨(n - R.floor).toNat,by omega⟩
  have hjl:j<R.und.length:=by omega
  have hgt:=List.getElem?_eq_getElem hjl
  have hat:R.undone n=R.und[j]:=by
   simp only [Revs.undone,hl,if_true,Revs.at]
   rw [show (n - (R.floor:Int)).toNat=j by omega,hgt];rfl
  rw [hat]
  obtain ⟨K,cap,x,hu,hlt,hc,hlx,_,hne⟩:=h.load hgt
  refine ⟨x,hlx,?_⟩
  refine exact_call (spec_of_awp mixed c_palinoderef20_Revs_Undone (tl rfl) ?_)
  unfold f_palinoderef20_Revs_Undone
  have hn2:n<((R.floor+R.und.length:Nat):Int):=by omega
  have hn0:0≤n:=by omega
  have htn:n.toNat=R.floor+j:=by omega
  have hraw:=hlx.cells.2.2
  subst hu
  simp +decide only [↓evd,evw,reduceCtorEq,↓reduceIte]
  refine MSpec.of (rlive_call h n) ?_
  simp +decide only [↓evd,evw,reduceCtorEq,↓reduceIte,hl,hk,rc_u,hn2,hn0,htn,hc]
end
def togRest (add : Bool) (g : Int) (l : List Int) : List Int := if add then insS g l else l.filter (· ≠ g)
theorem togRest_all {l:List Int} {g:Int} (h:Rise l):togRest (decide (g∉l)) g l=flip g l:=by
 by_cases hg:g∈l
 ·simp only [togRest,flip,if_pos hg,decide_eq_false (show ¬g∉l from fun h=>h hg),Bool.false_eq_true,if_false]
  rw [h.nodup.erase_eq_filter g]
  exact List.filter_congr (fun x _=>by by_cases e:x=g <;> simp [e])
 ·simp only [togRest,flip,if_neg hg,decide_eq_true hg,if_true]
set_option maxHeartbeats 1000000 in
theorem toggled_call (σ : Heap) (l : List Int) (g : Int) (hl : Rise l) : ACall Tryz.prog n_palinoderef20_toggled [ints l, .int .i64 g] σ (ints (flip g l)) σ := by
  have hlen := rise_len hl
  refine bare_call (by simp only [AVal.pures, ints_pure]; rfl) (ints_pure _) (fun W F => spec_of_awp mixed c_palinoderef20_toggled (tl rfl) ?_) σ
  unfold f_palinoderef20_toggled
  have hin := fun σ => in_call σ l g (by omega)
  have hnot : (!decide (g ∈ l)) = decide (g ∉ l) := by simp
  simp +decide only [↓evd, evw, evz, reduceCtorEq, ↓reduceIte]
  refine MSpec.of (hin _) ?_
  simp +decide only [↓evd, evw, reduceCtorEq, ↓reduceIte, hnot]
  refine awp_loop (fun m fr τ => ∃ i add acc, m + i = l.length ∧ fr.get 0 = ints l ∧ fr.get 1 = .int .i64 g ∧ fr.get 6 = .bool add ∧ fr.get 7 = .int .i64 (i : Nat) ∧ Own 0 τ t_int 1 (fr.get 5) (acc.map (AVal.int .i64 ·)) ∧ acc ++ togRest add g (l.drop i) = flip g l ∧ (add = true → g ∉ l) ∧ acc.length ≤ 2 * i ∧ τ.W = W ∧ τ.F0 = F) ?_ (m := l.length) ?_
  · rintro m fr τ ⟨i, add, acc, hi, e0, e1, e6, e7, hO, hacc, hadd, hal, hW, hF⟩
    by_cases hlt : i < l.length
    · have hlt' : (i : Int) < (l.length : Int) := by omega
      have hg := map_get (AVal.int .i64 ·) l i hlt
      have hs := wrap_succ (i := i) (by omega)
      have t1 := List.drop_eq_getElem_cons hlt
      have hm := List.getElem_mem hlt
      have hp : (l.drop i).Pairwise (· < ·) := hl.1.sublist (List.drop_sublist _ _)
      rw [t1] at hacc hp
      have hrel := fun y hy => List.rel_of_pairwise_cons hp (a' := y) hy
      generalize l[i] = x at hg hacc hm hrel
      cases add with
      | true =>
        have hgl := hadd rfl
        have hne : x ≠ g := fun e => hgl (e ▸ hm)
        have hb : (x != g) = true := by simpa using hne
        by_cases hgx : g < x
        · obtain ⟨x1, ρ1, a1, a2, a3, a4, a5, a6, a7⟩ := own_int hO (Nat.zero_le _) (by omega) g
          obtain ⟨x2, ρ2, b1, b2, b3, b4, b5, b6, b7⟩ := own_int a2 (Nat.zero_le _) (by simp; omega) x
          simp +decide only [↓evd, evw, evz, reduceCtorEq, ↓reduceIte, e0, e1, e6, e7, hlt', hg, hb, hs, hgx, a1, b1]
          refine ⟨m - 1, by omega, i + 1, false, _, by omega, rfl, rfl, b2, ?_, (fun h => by cases h), by simp; omega, b3.trans (a3.trans hW), b4.trans (a4.trans hF)⟩
          rw [← hacc]
          have hf : (l.drop (i + 1)).filter (· ≠ g) = l.drop (i + 1) := List.filter_eq_self.2 fun y hy => by have := hrel y hy; simp; omega
          simp only [togRest, Bool.false_eq_true, if_false, if_true, hf, insS, if_neg hne, if_pos hgx, List.append_assoc, List.cons_append, List.nil_append]
        · obtain ⟨x2, ρ2, b1, b2, b3, b4, b5, b6, b7⟩ := own_int hO (Nat.zero_le _) (by omega) x
          simp +decide only [↓evd, evw, evz, reduceCtorEq, ↓reduceIte, e0, e1, e6, e7, hlt', hg, hb, hs, hgx, b1]
          refine ⟨m - 1, by omega, i + 1, true, _, by omega, rfl, rfl, b2, ?_, fun _ => hgl, by simp; omega, b3.trans hW, b4.trans hF⟩
          rw [← hacc]
          simp only [togRest, if_true, insS, if_neg hne, if_neg hgx, List.append_assoc, List.singleton_append]
      | false =>
        by_cases hne : x = g
        · have hb : (x != g) = false := by simpa using hne
          simp +decide only [↓evd, evw, evz, reduceCtorEq, ↓reduceIte, e0, e1, e6, e7, hlt', hg, hb, hs]
          refine ⟨m - 1, by omega, i + 1, false, acc, by omega, rfl, rfl, hO, ?_, (fun h => by cases h), by omega, hW, hF⟩
          rw [← hacc]
          simp [togRest, hne]
        · have hb : (x != g) = true := by simpa using hne
          obtain ⟨x2, ρ2, b1, b2, b3, b4, b5, b6, b7⟩ := own_int hO (Nat.zero_le _) (by omega) x
          simp +decide only [↓evd, evw, evz, reduceCtorEq, ↓reduceIte, e0, e1, e6, e7, hlt', hg, hb, hs, b1]
          refine ⟨m - 1, by omega, i + 1, false, _, by omega, rfl, rfl, b2, ?_, (fun h => by cases h), by simp; omega, b3.trans hW, b4.trans hF⟩
          rw [← hacc]
          simp [togRest, hne]
    · have hlt' : ¬ (i : Int) < (l.length : Int) := by omega
      rw [List.drop_eq_nil_of_le (by omega)] at hacc
      cases add with
      | true =>
        obtain ⟨x2, ρ2, b1, b2, b3, b4, b5, b6, b7⟩ := own_int hO (Nat.zero_le _) (by omega) g
        have he : acc ++ [g] = flip g l := by rw [← hacc]; simp [togRest, insS]
        rw [he] at b2
        simp +decide only [↓evd, evw, evz, reduceCtorEq, ↓reduceIte, e0, e1, e6, e7, hlt', b1]
        obtain ⟨τ', s1, s2, s3, _⟩ := Own.sees b2
        exact ⟨τ', s1, s2.trans (b3.trans hW), s3.trans (b4.trans hF)⟩
      | false =>
        have he : acc = flip g l := by rw [← hacc]; simp [togRest]
        rw [he] at hO
        simp +decide only [↓evd, evw, evz, reduceCtorEq, ↓reduceIte, e0, e6, e7, hlt']
        obtain ⟨τ', s1, s2, s3, _⟩ := Own.sees hO
        exact ⟨τ', s1, s2.trans hW, s3.trans hF⟩
  · refine ⟨0, decide (g ∉ l), [], by omega, ?_⟩
    simp +decide only [evw, evz, ↓reduceIte]
    exact ⟨Own.nil _ _ _ _, togRest_all hl, fun h => by simpa using h⟩
section
variable {σ:Heap} {k:Nat} {R:Revs} {P:Nat→Bool} {u:AVal} {els:List AVal}
theorem RefAt.few (h:RefAt σ k R P u els):R.head≤200∧R.head+1=R.floor+R.und.length:=by
 have h1:=h.ok.few
 have h2:=List.length_pos_iff.2 h.ok.one
 simp only [Revs.head];omega
theorem Revs.Ok.push {R:Revs} (h:R.Ok) (hh:R.head<200) {s:List Int} (hs:Rise s):(R.push s).Ok where
 one:=by simp [Revs.push]
 few:=by
  have:=h.few
  have:=List.length_pos_iff.2 h.one
  simp only [Revs.head] at hh
  simp only [Revs.push,List.length_append,List.length_cons,List.length_nil];omega
 rise:=by
  intro x hx
  simp only [Revs.push,List.mem_append,List.mem_singleton] at hx
  rcases hx with hx | rfl
  ·exact h.rise x hx
  ·exact hs
 grp:=h.grp
 gone:=h.gone
theorem Lst.shape {x:AVal} {l:List Int} (h:Lst x l):(∃ y,x= .fsl 1 y)∨x= .nils:=by
 rcases h with rfl | ⟨rfl,_⟩
 ·exact .inl ⟨_,rfl⟩
 ·exact .inr rfl
theorem rnext_spec (h:RefAt σ k R P u els) (hh:R.head<200) {x:AVal} {s:List Int} (hx:Lst x s) (hs:Rise s):MSpec Tryz.prog n_palinoderef20_Revs_next [.ptr (.new k) 0,x] σ fun v τ=>v= .int .i64 ((R.head:Int)+1)∧∃ u' els',RefAt τ k (R.push s) P u' els'∧Keep (k::uid u) σ τ∧Fresh (k::uid u) σ (k::uid u'):=by
 refine spec_of_awp mixed c_palinoderef20_Revs_next (tl rfl) ?_
 unfold f_palinoderef20_Revs_next
 have hk:=h.blk
 have hsh:=hx.shape
 obtain ⟨c1,c2,c3⟩:=hx.cells
 have hf:=h.few
 have hw:=wrap_succ (i:=R.head) (by omega)
 have hlow:=h.low
 have hnk:(σ.next=k)=False:=eq_false (by omega)
 have hru:=((h.row.set (j:=k) (fun K o n c e=>(h.ne K o n c e).symm) (.cells (refCells (R.head+1) R.floor P u) none)).new (.cells [x] none))
 have hsrc:=src_one (σ:=(σ.set k (.cells (refCells (R.head+1) R.floor P u) none)).new (.cells [x] none)) (K:=σ.next) (k:=1) (cs:=[x]) (opn:=none) (z:=x) (cap:= .ex 1) (by simp [Heap.get_new]) c1 rfl
 obtain ⟨u',ρ,g1,g2,g3,g4,g5⟩:=row_app2 (bytes:=24) hru (Nat.zero_le _) hsrc.1 hsrc.2 (by intro z hz;simp at hz;subst hz;rw [c1];rfl) (by simp [c1,c2]) (by omega) (by omega) (by rw [h.len];unfold maxRoom;simp;omega)
 have hk2:ρ.get k=some (.cells (refCells (R.head+1) R.floor P u) none):=by
  rw [g4 k (by simp;omega) (fun K o n c e=>(h.ne K o n c e).symm),Heap.get_new,if_neg (by simp;omega),Heap.get_set,if_pos rfl]
 have e0:((R.head:Int)+1)=((R.head+1:Nat):Int):=by omega
 have fin:∃ u'' els',RefAt (ρ.set k (.cells (refCells (R.head+1) R.floor P u') none)) k (R.push s) P u'' els'∧Keep (k::uid u) σ (ρ.set k (.cells (refCells (R.head+1) R.floor P u') none))∧Fresh (k::uid u) σ (k::uid u''):=by
  refine ⟨u',els ++ [x],?_,?_,?_⟩
  ·have hidk:∀ K o n c,u'= .slc (.new K) o n c→K≠k:=by
    intro K o n c e
    rcases g5 K o n c e with h1 | ⟨o',n',c',h1⟩
    ·simp at h1;omega
    ·exact h.ne _ _ _ _ h1
   refine ⟨?_,g2.set (fun K o n c e=>(hidk K o n c e).symm) _,hidk,?_,?_,?_,h.has,h.gone,?_,h.ok.push hh hs⟩
   ·rw [Heap.get_set,if_pos rfl,head_push _ h.ok.one];rfl
   ·simp only [List.length_append,h.len,Revs.push,List.length_cons,List.length_nil];omega
   ·intro z hz
    rcases List.mem_append.1 hz with hz | hz
    ·exact h.lst z hz
    ·rw [List.mem_singleton.1 hz];exact ⟨s,hx⟩
   ·intro j t ht
    have hfl:(R.push s).floor=R.floor:=rfl
    rw [hfl]
    simp only [Revs.push] at ht
    by_cases hj:j<R.und.length
    ·rw [List.getElem?_append_left hj] at ht
     obtain ⟨y,hy,hl⟩:=h.at_ j t ht
     exact ⟨y,by rw [List.getElem?_append_left (by have:=h.len;omega)];exact hy,hl⟩
    ·have hj2:=(List.getElem?_eq_some_iff.1 ht).1
     simp at hj2
     have e1:j=R.und.length:=by omega
     subst e1
     rw [List.getElem?_concat_length] at ht
     cases ht
     exact ⟨x,by rw [← h.len,List.getElem?_concat_length],hx⟩
   ·have:=g3.2.2.1;simp at this ⊢;omega
  ·refine ⟨g3.1,g3.2.1,?_,?_⟩
   ·have:=g3.2.2.1;simp at this ⊢;omega
   ·intro q hq hn
    simp only [List.mem_cons,not_or] at hn
    rw [Heap.get_set,if_neg (fun e=>hn.1 e.symm),g4 q (by simp;omega) (fun K o n c e hk=>hn.2 (mem_uid.2 ⟨o,n,c,by rw [hk];exact e⟩)),Heap.get_new,if_neg (by simp;omega),Heap.get_set,if_neg (fun e=>hn.1 e.symm)]
  ·intro q hq
   rcases List.mem_cons.1 hq with rfl | hq
   ·exact .inl (by simp)
   ·obtain ⟨o,n,c,e⟩:=mem_uid.1 hq
    rcases g5 q o n c e with h1 | ⟨o',n',c',h1⟩
    ·exact .inr (by simp at h1;omega)
    ·exact .inl (List.mem_cons_of_mem _ (mem_uid.2 ⟨_,_,_,h1⟩))
 obtain ⟨K',cap',hu'⟩:∃ K' cap',u'= .slc (.new K') 0 (els ++ [x]).length cap':=by
  rcases g2.2 with ⟨_,h0⟩ | ⟨K',cap',_,_,h1,_⟩
  ·simp at h0
  ·exact ⟨_,_,h1⟩
 clear hru hsrc g2 g3 g4 g5 c1 c2 c3
 generalize (els ++ [x]).length=nn at hu'
 subst hu'
 rcases hsh with ⟨y,rfl⟩ | rfl
 all_goals
  simp only [↓evd,evu,evf,implies_true,reduceCtorEq,↓reduceIte,Nat.reduceAdd,Nat.reduceLeDiff,Nat.reduceLT,evz,hk,rc_0,rc_u,rc_len,rc_set0,hw,g1,hk2,rc_setu]
  exact ⟨by rw [e0],fin⟩
theorem toggled_lst (σ:Heap) {x:AVal} {l:List Int} (hx:Lst x l) (g:Int) (hl:Rise l):ACall Tryz.prog n_palinoderef20_toggled [x,.int .i64 g] σ (ints (flip g l)) σ:=
 exact_call (mspec_seen (.cons (hx.sees σ) (.cons (Sees.refl _ _) (.nil _))) ⟨_,_,toggled_call σ l g hl,rfl,rfl⟩)
theorem RefAt.last (h:RefAt σ k R P u els):∃ K cap x,u= .slc (.new K) 0 (R.head+1) cap∧σ.cell (.new K) R.head=some x∧Lst x R.top∧els[R.head]? =some x:=by
 have h1:=List.length_pos_iff.2 h.ok.one
 have hf:=h.few
 have h3:R.und[R.und.length - 1]? =some R.top:=by
  simp only [Revs.top,← List.getLast?_eq_getElem?,List.getLastD_eq_getLast?]
  cases he:R.und.getLast? with
  | none=>rw [List.getLast?_eq_none_iff] at he;exact absurd he h.ok.one
  | some s=>rfl
 obtain ⟨K,cap,x,e1,e2,e3,e4,e5,_⟩:=h.load h3
 rw [show R.floor+(R.und.length - 1)=R.head by omega] at e3 e5
 exact ⟨K,cap,x,by rw [e1,hf.2],e3,e4,e5⟩
theorem RefAt.sethas (h:RefAt σ k R P u els) {j:Nat} (hj:j<60) (hg:(j:Int)∉R.gone):RefAt (σ.set k (.cells (refCells R.head R.floor (fun i=>if i=j then true else P i) u) none)) k {R with grp:=insS j R.grp} (fun i=>if i=j then true else P i) u els where
 blk:=by rw [Heap.get_set,if_pos rfl];rfl
 row:=h.row.set (fun K o n c e=>(h.ne K o n c e).symm) _
 ne:=h.ne
 len:=h.len
 lst:=h.lst
 at_:=h.at_
 has:=by
  intro g hg2
  have h1:=h.has g hg2
  have h2:=h.gone g hg2
  show ((if g=j then true else P g) && !(if 60+g=j then true else P (60+g)))=decide ((g:Int)∈insS j R.grp)
  rw [if_neg (show ¬60+g=j by omega)]
  by_cases e:g=j
  ·subst e
   have:P (60+g)=false:=by rw [h2];exact not_mem_bool hg
   rw [this,if_pos rfl,mem_bool (mem_insS.2 (.inl rfl))];rfl
  ·rw [if_neg e,h1]
   have:((g:Int)∈insS j R.grp)↔(g:Int)∈R.grp:=by rw [mem_insS];exact ⟨fun h=>h.resolve_left (by omega),.inr⟩
   simp [this]
 gone:=by
  intro g hg2
  show (if 60+g=j then true else P (60+g))=_
  rw [if_neg (by omega)];exact h.gone g hg2
 low:=by simpa using h.low
 ok:=⟨h.ok.one,h.ok.few,h.ok.rise,h.ok.grp.ins (by omega) (by omega),h.ok.gone⟩
set_option maxHeartbeats 1000000 in
theorem radd_at {fp : List Nat} {R' : Revs} (h : IsRef σ k R fp) {g n c : Int} (e : addR R g = (R', n, c)) : MSpec Tryz.prog n_palinoderef20_Revs_Add [.ptr (.new k) 0, .int .i64 g] σ fun v τ => v = .tup [.int .i64 n, .int .i64 c] ∧ ∃ fp', IsRef τ k R' fp' ∧ Keep fp σ τ ∧ Fresh fp σ fp' := by
  obtain ⟨P, u, els, h, rfl⟩ := h
  refine spec_of_awp mixed c_palinoderef20_Revs_Add (tl rfl) ?_
  unfold f_palinoderef20_Revs_Add
  have hk := h.blk
  have hf := h.few
  have ht := there_call σ g
  have fin : IsRef σ k R (k :: uid u) ∧ Keep (k :: uid u) σ σ ∧ Fresh (k :: uid u) σ (k :: uid u) := ⟨⟨P, u, els, h, rfl⟩, Keep.refl _ _, fun x hx => .inl hx⟩
  simp only [↓evd, evu, evf, implies_true, reduceCtorEq, ↓reduceIte, Nat.reduceAdd, Nat.reduceLT, evz]
  refine MSpec.of ht ?_
  by_cases hb : (decide (0 ≤ g) && decide (g < 60)) = true
  case neg =>
    have hb2 : (decide (0 ≤ g) && decide (g < 60)) = false := by simpa using hb
    have hbad : g ∈ R.gone ∨ g < 0 ∨ 60 ≤ g := by
      right
      rcases Int.lt_or_le g 0 with h1 | h1
      · exact .inl h1
      · rcases Int.lt_or_le g 60 with h2 | h2
        · exact absurd (by simp [h1, h2]) hb
        · exact .inr h2
    rw [add_bad hbad] at e
    cases e
    rw [hb2]
    simp only [↓evd, evu, evf, implies_true, reduceCtorEq, ↓reduceIte, Nat.reduceLT, evz]
    exact ⟨_, fin⟩
  obtain ⟨j, rfl, hj⟩ := (there_in g).1 hb
  have h1 := aIdxR_lt (n := 60) (k := 1) (off := 2) (i := .new k) (K := .i64) hj
  have h2 := aIdxR_lt (n := 60) (k := 1) (off := 62) (i := .new k) (K := .i64) hj
  have hg := h.gone j hj
  rw [hb]
  by_cases hgo : (j : Int) ∈ R.gone
  · rw [add_bad (.inl hgo)] at e
    cases e
    rw [mem_bool hgo] at hg
    simp only [↓evd, evu, evf, implies_true, reduceCtorEq, ↓reduceIte, Nat.reduceLT, evz, hk, h2, rc_gone hj, hg]
    exact ⟨_, fin⟩
  rw [not_mem_bool hgo] at hg
  by_cases h4 : 200 ≤ R.head
  · rw [add_many hgo (by omega) (by omega) h4] at e
    cases e
    have hb4 : ((R.head : Int) == 200) = true := by have : R.head = 200 := by omega
                                                    rw [this]; rfl
    simp only [↓evd, evu, evf, implies_true, reduceCtorEq, ↓reduceIte, Nat.reduceLT, evz, hk, h2, rc_gone hj, rc_0, hg, hb4]
    exact ⟨_, fin⟩
  · rw [add_good hgo (by omega) (by omega) (by omega)] at e
    cases e
    have hb4 : ((R.head : Int) == 200) = false := by simp; omega
    have hP := h.sethas hj hgo
    obtain ⟨K, cap, x, e1, e2, e3, e4⟩ := hP.last
    have hle : decide (2 + j + 1 ≤ 123) = true := by simp; omega
    have hle2 : decide (2 + j ≤ 122) = true := by simp; omega
    have hhd : (R.head : Int) < ((R.head + 1 : Nat) : Int) := by omega
    have hx := e3.cells.2.2
    have hrise : Rise R.top := h.ok.top.2.1
    have hnx := rnext_spec hP (show R.head < 200 by omega) e3 hrise
    subst e1
    have hKk := h.ne _ _ _ _ rfl
    have e2' : Revs.head { R with grp := insS (j : Int) R.grp } = R.head := rfl
    rw [e2'] at e2
    have e2'' := e2
    simp only [Heap.cell, Heap.get_set, if_neg (show ¬ k = K from fun e => hKk e.symm)] at e2''
    simp only [↓evd, evu, evf, implies_true, reduceCtorEq, ↓reduceIte, Nat.reduceLeDiff, Nat.reduceLT, evz, hk, h1, h2, rc_gone hj, rc_0, hg, hb4, rc_sethas hj, rc_len, hle2]
    with_reducible refine draw_of_grow (fun _ => True) (ms := [false, false, false, false, true, false, false, false, true, false, true, true, false, false]) (by kernel_rfl) ?_
    simp only [↓evd, evu, evf, ↓reduceIte, Nat.reduceLT, evz, rc_u, rc_0, e2', hhd, e2]
    refine hnx.mono ?_
    rintro v τ ⟨rfl, u', els', hA, hK, hF⟩
    simp only [↓evd, evu, evf, ↓reduceIte, Nat.reduceLT, evz]
    refine ⟨by rfl, _, ⟨_, _, _, hA, rfl⟩, ?_, hF⟩
    exact ((Keep.refl (k :: uid _) σ).set (.inl (by simp)) _).trans hK (fun x hx => .inl hx)
end
section
variable {σ:Heap} {k:Nat} {R:Revs} {P:Nat→Bool} {u:AVal} {els:List AVal}
theorem toggle_many {R:Revs} {g:Int} (h1:g∈R.grp) (h4:200≤R.head):toggleR R g=(R,0,70):=by
 simp only [toggleR,if_neg (show ¬g∉R.grp from fun h=>h h1),if_pos h4]
set_option maxHeartbeats 1000000 in
theorem rtoggle_at {fp : List Nat} {R' : Revs} (h : IsRef σ k R fp) {g n c : Int} (e : toggleR R g = (R', n, c)) : MSpec Tryz.prog n_palinoderef20_Revs_Toggle [.ptr (.new k) 0, .int .i64 g] σ fun v τ => v = .tup [.int .i64 n, .int .i64 c] ∧ ∃ fp', IsRef τ k R' fp' ∧ Keep fp σ τ ∧ Fresh fp σ fp' := by
  obtain ⟨P, u, els, h, rfl⟩ := h
  refine spec_of_awp mixed c_palinoderef20_Revs_Toggle (tl rfl) ?_
  unfold f_palinoderef20_Revs_Toggle
  have hk := h.blk
  have hf := h.few
  have hi := is_call h g
  have fin : IsRef σ k R (k :: uid u) ∧ Keep (k :: uid u) σ σ ∧ Fresh (k :: uid u) σ (k :: uid u) := ⟨⟨P, u, els, h, rfl⟩, Keep.refl _ _, fun x hx => .inl hx⟩
  simp +decide only [↓evd, evw, reduceCtorEq, ↓reduceIte]
  refine MSpec.of hi ?_
  by_cases hg : g ∈ R.grp
  case neg =>
    rw [toggle_bad hg] at e
    cases e
    simp +decide only [↓evd, evw, reduceCtorEq, ↓reduceIte, not_mem_bool hg]
    exact ⟨_, fin⟩
  have hgb := h.ok.grp.2 g hg
  by_cases h4 : 200 ≤ R.head
  · rw [toggle_many hg h4] at e
    cases e
    have hb4 : ((R.head : Int) == 200) = true := by have : R.head = 200 := by omega
                                                    rw [this]; rfl
    simp +decide only [↓evd, evw, reduceCtorEq, ↓reduceIte, mem_bool hg, hk, rc_0, hb4]
    exact ⟨_, fin⟩
  · rw [toggle_of hg (by omega)] at e
    cases e
    have hb4 : ((R.head : Int) == 200) = false := by simp; omega
    obtain ⟨K, cap, x, e1, e2, e3, e4⟩ := h.last
    have hhd : (R.head : Int) < ((R.head + 1 : Nat) : Int) := by omega
    have hx := e3.cells.2.2
    have hrise : Rise R.top := h.ok.top.2.1
    have htg := toggled_lst σ e3 g hrise
    have hnx := rnext_spec h (by omega) (.inl rfl : Lst (ints (flip g R.top)) (flip g R.top)) (hrise.flip hgb.1 hgb.2)
    subst e1
    simp +decide only [↓evd, evw, reduceCtorEq, ↓reduceIte, mem_bool hg, hk, rc_0, hb4]
    with_reducible refine draw_of_grow (fun _ => True) (ms := [false, false, false, false, true, false, false, false, true, false, true, false, true, true, false, false]) (by kernel_rfl) ?_
    simp +decide only [↓evd, evw, ↓reduceIte, hk, rc_u, rc_0, hhd, e2]
    refine MSpec.of htg ?_
    simp +decide only [↓evd, evw, evz, ↓reduceIte]
    refine hnx.mono ?_
    rintro v τ ⟨rfl, u', els', hA, hK, hF⟩
    simp +decide only [↓evd, evw, ↓reduceIte]
    exact ⟨_, ⟨_, _, _, hA, rfl⟩, hK, hF⟩
end
theorem take_bits (P:Nat→Bool) (l:List AVal):(bitRow 120 P ++ l).take 120=bitRow 120 P:=by
 rw [List.take_append_of_le_length (by rw [bitRow_len];omega),List.take_of_length_le (by rw [bitRow_len];omega)]
theorem drop_bits (P:Nat→Bool) (x:AVal):(bitRow 120 P ++ [x]).drop 121=[]:=List.drop_eq_nil_of_le (by simp [bitRow_len])
theorem rnew_at (σ:Heap):MSpec Tryz.prog n_palinoderef20_NewRevs [] σ fun v τ=>v= .ptr (.new (σ.next+1)) 0∧(∃ fp,IsRef τ (σ.next+1) Revs.new fp∧∀ x∈fp,σ.next≤x)∧Keep [] σ τ:=by
 refine spec_of_awp mixed c_palinoderef20_NewRevs (tl rfl) ?_
 unfold f_palinoderef20_NewRevs
 simp +decide only [↓evd,evw,reduceCtorEq,↓reduceIte,take_bits,drop_bits]
 refine ⟨?_,((Keep.refl [] σ).new _).new _⟩
 refine ⟨_,⟨fun _=>false,.slc (.new σ.next) 0 1 (.ex 1),[.nils],⟨?_,?_,?_,rfl,?_,?_,?_,?_,?_,?_⟩,rfl⟩,?_⟩
 ·rw [Heap.get_new,if_pos (by simp)];rfl
 ·refine ⟨by intro z hz;simp at hz;subst hz;rfl,.inr ⟨σ.next,.ex 1,[.nils],none,rfl,?_,rfl,Nat.zero_le _,by simp;omega,.inr ⟨1,rfl,by simp,rfl⟩⟩⟩
  rw [Heap.get_new,if_neg (by simp),Heap.get_new,if_pos rfl]
 ·intro K o n c e;cases e;omega
 ·intro z hz;simp at hz;exact ⟨[],.inr ⟨hz,rfl⟩⟩
 ·intro j s hj
  cases j with
  | zero=>simp [Revs.new] at hj;subst hj;exact ⟨.nils,rfl,.inr ⟨rfl,rfl⟩⟩
  | succ j=>simp [Revs.new] at hj
 ·intro g _;simp [Revs.new]
 ·intro g _;simp [Revs.new]
 ·simp
 ·exact ⟨by simp [Revs.new],by simp [Revs.new],by intro s hs;simp [Revs.new] at hs;subst hs;exact Rise.nil,Rise.nil,Rise.nil⟩
 ·intro x hx
  simp only [uid,List.mem_cons,List.not_mem_nil,or_false] at hx
  omega
theorem slc_take {l:List Int} {i:Nat} (h:i≤l.length):aSlc 1 (.fsl 1 (l.map (AVal.int .i64 ·))) none (some (.int .i64 (i:Nat))) none=some (.fsl 1 ((l.take i).map (AVal.int .i64 ·))):=by
 have b1:aBound (some (.int .i64 (i:Nat))) (l.map (AVal.int .i64 ·)).length (l.map (AVal.int .i64 ·)).length=some i:=by
  simp only [aBound,List.length_map];rw [if_pos (by simp;omega)];rfl
 have b2:aBound none 0 i=some 0:=rfl
 have b3:aBound none (l.map (AVal.int .i64 ·)).length (l.map (AVal.int .i64 ·)).length=some (l.map (AVal.int .i64 ·)).length:=rfl
 have e:((l.map (AVal.int .i64 ·)).take i).drop 0=(l.take i).map (AVal.int .i64 ·):=by rw [List.drop_zero,List.map_take]
 simp only [aSlc,b3,b1,b2,e,Option.isSome_none,Bool.false_and,Bool.false_eq_true,if_false];rfl
section
variable {σ:Heap} {k:Nat} {R:Revs} {P:Nat→Bool} {u:AVal} {els:List AVal}
theorem row_last {K:Nat} {cap:Cap} {cs:List AVal} {opn:Option TypeId} {n:Nat} {z:AVal} (h:Row 0 σ t_ints 1 (.slc (.new K) 0 (n+1) cap) els) (hl:∀ z∈els,∃ l,Lst z l) (hn:els.length=n+1) (hg:σ.get K=some (.cells cs opn)) {s:List Int} (hz:Lst z s):
  n+1≤cs.length∧Row 0 (σ.set K (.cells (cs.take n ++ [z] ++ cs.drop (n+1)) opn)) t_ints 1 (.slc (.new K) 0 (n+1) cap) (els.take n ++ [z]):=by
 have hone:=h.1
 rcases h.2 with ⟨h1,_⟩ | ⟨K',cap',cs',opn',h1,h2,h3,h4,h5,h6⟩
 ·cases h1
 simp only [AVal.slc.injEq,Id.new.injEq] at h1
 obtain ⟨rfl,_,_,rfl⟩:=h1
 rw [hg] at h2
 cases h2
 rw [lst_flat hl,Nat.mul_one] at h3
 have hcl:n+1≤cs.length:=by
  have:=congrArg List.length h3
  simp at this;omega
 refine ⟨hcl,?_⟩
 have hlz:(els.take n ++ [z]).length=n+1:=by simp;omega
 have ht:cs.take n=els.take n:=by rw [← h3,List.take_take,Nat.min_eq_left (by omega)]
 have hlist:∀ y∈els.take n ++ [z],∃ l,Lst y l:=by
  intro y hy
  rcases List.mem_append.1 hy with hy | hy
  ·exact hl y (List.mem_of_mem_take hy)
  ·rw [List.mem_singleton.1 hy];exact ⟨s,hz⟩
 refine ⟨fun y hy=>by obtain ⟨l,hl⟩:=hlist y hy;rw [hl.cells.1];rfl,.inr ⟨K,cap,cs.take n ++ [z] ++ cs.drop (n+1),opn,by rw [hlz],by rw [Heap.get_set,if_pos rfl],?_,Nat.zero_le _,by simpa using h5,?_⟩⟩
 ·rw [lst_flat hlist,hlz,Nat.mul_one,List.take_append_of_le_length (by simp;omega),List.take_of_length_le (by simp;omega),ht]
 ·have:(cs.take n ++ [z] ++ cs.drop (n+1)).length=cs.length:=by simp;omega
  rw [this,hlz]
  rw [hn] at h6
  exact h6
theorem delAll_take {s l:List Int} {i:Nat} (h:i<s.length):delAll (s.take (i+1)) l=delAll (s.take i) l ++ (if decide (s[i]∉l) then [s[i]] else []):=take_filter (fun x=>decide (x∉l)) h
set_option maxHeartbeats 2000000 in
theorem rforget_spec {fp:List Nat} (h:IsRef σ k R fp) (l:List Int) (hll:l.length≤1000000):MSpec Tryz.prog n_palinoderef20_Revs_Forget [.ptr (.new k) 0,ints l] σ fun v τ=>v= .int .i64 (forgetR R l).2∧∃ fp',IsRef τ k (forgetR R l).1 fp'∧Keep fp σ τ∧Fresh fp σ fp':=by
 obtain ⟨P,u,els,h,rfl⟩:=h
 refine spec_of_xwp c_palinoderef20_Revs_Forget (tl rfl) ?_
 unfold f_palinoderef20_Revs_Forget
 have hk:=h.blk
 have hf:=h.few
 have fin:IsRef σ k R (k::uid u)∧Keep (k::uid u) σ σ∧Fresh (k::uid u) σ (k::uid u):=⟨⟨P,u,els,h,rfl⟩,Keep.refl _ _,fun x hx=>.inl hx⟩
 refine x_seq mixed ?_
 simp +decide only [↓evd,evw,evz,reduceCtorEq]
 refine x_seq mixed ?_
 simp +decide only [↓evd,evw,reduceCtorEq]
 refine awp_loop (fun m fr τ=>∃ i,m+i=l.length∧fr.get 0= .ptr (.new k) 0∧fr.get 1=ints l∧fr.get 5= .int .i64 (i:Nat)∧(l.take i).Nodup∧(∀ g∈l.take i,g∈R.grp)∧τ=σ) ?_ (m:=l.length) ?_
 ·rintro m fr τ ⟨i,hi,e0,e1,e5,hnd,hin,rfl⟩
  by_cases hlt:i<l.length
  ·have hlt':(i:Int)<(l.length:Int):=by omega
   have hg:=map_get (AVal.int .i64 ·) l i hlt
   have hs:=wrap_succ (i:=i) (by omega)
   have t1:=List.take_succ_eq_append_getElem hlt
   have hm:=List.getElem_mem hlt
   have hsl:=slc_take (l:=l) (i:=i) (by omega)
   have hbad:l[i]∉R.grp∨l[i]∈l.take i→¬Good R l:=by
    rintro (h1 | h1) h2
    ·exact h1 (h2.2 _ hm)
    ·have:=h2.1.sublist (List.take_sublist (i+1) l)
     rw [t1] at this
     exact (List.nodup_append.1 this).2.2 _ h1 _ (by simp) rfl
   generalize l[i]=g at hg t1 hm hbad
   have hi2:=is_call h g
   have hi3:=in_call τ (l.take i) g (by simp;omega)
   simp +decide only [↓evd,evw,evz,reduceCtorEq,↓reduceIte,e1,e5,hlt']
   with_reducible refine draw_of_grow (fun _=>True) (ms:=[false,false,false,false,true,true,false,false,false,false,false,false,false,false,true,true,false]) (by kernel_rfl) ?_
   simp +decide only [↓evd,evw,evz,↓reduceIte,e0,e1,e5,hg]
   refine MSpec.of hi2 ?_
   by_cases h1:g∈R.grp
   case neg=>
    have hfb:forgetR R l=(R,210):=forget_bad (hbad (.inl h1))
    rw [hfb]
    simp +decide only [↓evd,evw,reduceCtorEq,↓reduceIte,not_mem_bool h1]
    exact ⟨_,fin⟩
   by_cases h2:g∈l.take i
   ·have hfb:forgetR R l=(R,210):=forget_bad (hbad (.inr h2))
    rw [hfb]
    simp +decide only [↓evd,evw,evz,↓reduceIte,e1,e5,mem_bool h1,hg,hsl]
    refine MSpec.of hi3 ?_
    simp +decide only [↓evd,evw,reduceCtorEq,↓reduceIte,mem_bool h2]
    exact ⟨_,fin⟩
   ·simp +decide only [↓evd,evw,evz,↓reduceIte,e1,e5,mem_bool h1,hg,hsl]
    refine MSpec.of hi3 ?_
    simp +decide only [↓evd,evw,evz,reduceCtorEq,↓reduceIte,e0,e1,e5,not_mem_bool h2,hs]
    refine ⟨m - 1,by omega,i+1,by omega,rfl,?_,?_⟩
    ·rw [t1]
     exact List.nodup_append.2 ⟨hnd,by simp,fun a ha b hb e=>h2 (by rw [List.mem_singleton] at hb;rw [← hb,← e];exact ha)⟩
    ·intro y hy
     rw [t1] at hy
     rcases List.mem_append.1 hy with hy | hy
     ·exact hin y hy
     ·rw [List.mem_singleton.1 hy];exact h1
  ·have hlt':¬(i:Int)<(l.length:Int):=by omega
   rw [List.take_of_length_le (by omega)] at hnd hin
   have hgood:Good R l:=⟨hnd,hin⟩
   simp +decide only [↓evd,evw,evz,reduceCtorEq,↓reduceIte,e1,e5,hlt']
   clear e5 hlt hlt' hi
   rw [forget_good hgood]
   have hone:=List.length_pos_iff.2 h.ok.one
   obtain ⟨K,cap,x,e1',e2',e3',e4'⟩:=h.last
   have hhd:(R.head:Int)<((R.head+1:Nat):Int):=by omega
   have hx:=e3'.cells.2.2
   have hrt:=h.ok.top.2.1
   have hlent:=rise_len hrt
   subst e1'
   refine x_seq mixed ?_
   simp +decide only [↓evd,evw,reduceCtorEq]
   refine x_seq mixed ?_
   simp +decide only [↓evd]
   with_reducible refine draw_of_grow (fun _=>True) (ms:=[false,false,false,true,false,false,false,true,false,true,false]) (by kernel_rfl) ?_
   simp +decide only [↓evd,evw,↓reduceIte,e0,hk,rc_u,rc_0,hhd,e2']
   refine x_seq mixed ?_
   simp +decide only [↓evd,evw,reduceCtorEq]
   have hlx:=e3'.len
   have hxs:R.top≠[]→x=ints R.top:=fun hne=>by
    rcases e3' with h1 | ⟨_,h1⟩
    ·exact h1
    ·exact absurd h1 hne
   generalize hs0:R.top=s at hrt hlent hlx hxs
   refine awp_loop (fun m fr ρ=>∃ i,m+i=s.length∧fr.get 0= .ptr (.new k) 0∧fr.get 1=ints l∧fr.get 7=x∧fr.get 8= .int .i64 (i:Nat)∧Own τ.next ρ t_int 1 (fr.get 6) ((delAll (s.take i) l).map (AVal.int .i64 ·))∧Keep [] τ ρ) ?_ (m:=s.length) ?_
   ·clear e0 e1
    rintro m fr ρ ⟨i,hi,e0,e1,e7,e8,hO,hK⟩
    by_cases hlt:i<s.length
    ·have hlt':(i:Int)<(s.length:Int):=by omega
     have hxe:=hxs (by intro e;rw [e] at hlt;simp at hlt)
     subst hxe
     have hg:=map_get (AVal.int .i64 ·) s i hlt
     have hs:=wrap_succ (i:=i) (by omega)
     have hdt:=delAll_take (l:=l) hlt
     generalize s[i]=g at hg hdt
     have hi3:=in_call ρ l g hll
     have hll2:(delAll (s.take i) l).length≤1000000:=by have:=List.length_filter_le (fun x=>decide (x∉l)) (s.take i);simp only [delAll];simp at this ⊢;omega
     by_cases hgl:g∈l
     ·simp +decide only [↓evd,evw,evz,reduceCtorEq,↓reduceIte,e1,e7,e8,hlt',hg]
      refine MSpec.of hi3 ?_
      simp +decide only [↓evd,evw,evz,reduceCtorEq,↓reduceIte,e0,e1,e7,e8,mem_bool hgl,hs]
      refine ⟨m - 1,by omega,i+1,by omega,rfl,?_,hK⟩
      rw [hdt,if_neg (by simpa using hgl),List.append_nil];exact hO
     ·obtain ⟨x1,ρ1,a1,a2,a3,a4,a5,a6,a7⟩:=own_int hO hK.2.2.1 hll2 g
      simp +decide only [↓evd,evw,evz,reduceCtorEq,↓reduceIte,e1,e7,e8,hlt',hg]
      refine MSpec.of hi3 ?_
      simp +decide only [↓evd,evw,evz,reduceCtorEq,↓reduceIte,e0,e1,e7,e8,not_mem_bool hgl,hs,hg,a1]
      refine ⟨m - 1,by omega,i+1,by omega,rfl,?_,?_⟩
      ·rw [hdt,if_pos (by simpa using hgl)];exact a2
      ·exact ⟨a3.trans hK.1,a4.trans hK.2.1,Nat.le_trans hK.2.2.1 (Nat.le_of_lt a5),fun q hq _=>by
        rw [a6 q (Nat.lt_of_lt_of_le hq hK.2.2.1) (fun K o n c e hk=>by have:=(hO.low e).1;omega)];exact hK.2.2.2 q hq (by simp)⟩
    ·have hlt':¬(i:Int)<(s.length:Int):=by omega
     rw [List.take_of_length_le (by omega)] at hO
     simp +decide only [↓evd,evw,reduceCtorEq,↓reduceIte,e7,e8,hlx,hlt']
     clear e7 e8 hlt hlt' hi
     generalize h6:fr.get 6=x6 at hO
     obtain ⟨τ1,s1,d1⟩:=Own.sees2 hO
     have hK1:Keep [] τ τ1:=by rcases d1 with rfl | ⟨K,_,rfl,hK2⟩;exact hK;exact hK.set (.inr hK2) _
     have hA:=h.move hK1.2.2.1 fun q hq=>hK1.2.2.2 q (h.lows q hq) (by simp)
     refine x_freeze (FSees.reg (t:=6) (by decide) (by simp +decide only [evw,↓reduceIte,h6]) s1) ?_
     refine x_of_awp mixed ?_
     have hk1:=hA.blk
     obtain ⟨cs,opn,hcs⟩:∃ cs opn,τ1.get K=some (.cells cs opn):=by
      rcases hA.row.2 with ⟨h1,_⟩ | ⟨K',cap',cs,opn,h1,h2,_⟩
      ·cases h1
      ·simp only [AVal.slc.injEq,Id.new.injEq] at h1
       rw [← h1.1] at h2
       exact ⟨cs,opn,h2⟩
     have hKk:=h.ne _ _ _ _ rfl
     have hlen:=h.len
     have hdrop:els.drop (R.head+1)=[]:=List.drop_eq_nil_of_le (by omega)
     obtain ⟨hcl,hrow⟩:=row_last (z:=ints (delAll s l)) hA.row hA.lst (by omega) hcs (s:=delAll s l) (.inl rfl)
     have hcl2:decide (R.head+1≤cs.length)=true:=by simpa using hcl
     have hKlow:=(hA.row.low rfl).2
     simp +decide only [↓evd]
     with_reducible refine draw_of_grow (fun _=>True) (ms:=[false,false,false,true,false,false,false,true,false,false,true]) (by kernel_rfl) ?_
     simp +decide only [↓evd,evw,reduceCtorEq,↓reduceIte,e0,hk1,rc_u,rc_0,hhd,hcs,hcl2]
     simp only [ints] at hrow
     generalize hτ2:τ1.set K _=τ2 at hrow
     have hn2:τ2.next=τ1.next:=by rw [← hτ2,Heap.set_next]
     have hk2:τ2.get k=some (.cells (refCells R.head R.floor P (.slc (.new K) 0 (R.head+1) cap)) none):=by rw [← hτ2,Heap.get_set,if_neg (fun e=>hKk e)];exact hk1
     have hK2:Keep [K] τ τ2:=by rw [← hτ2];exact (hK1.mono (fun x hx=>by cases hx)).set (.inl (by simp)) _
     refine awp_loop (fun m fr ρ=>∃ i P',m+i=l.length∧fr.get 0= .ptr (.new k) 0∧fr.get 1=ints l∧fr.get 9= .int .i64 (i:Nat)∧ρ.get k=some (.cells (refCells R.head R.floor P' (.slc (.new K) 0 (R.head+1) cap)) none)∧(∀ g:Nat,g<60→P' g=P g)∧(∀ g:Nat,g<60→P' (60+g)=(P (60+g) || decide ((g:Int)∈l.take i)))∧Keep [k] τ2 ρ) ?_ (m:=l.length) ?_
     ·clear e0 e1
      rintro m fr ρ ⟨i,P',hi,e0,e1,e9,hkb,hp1,hp2,hK3⟩
      by_cases hlt:i<l.length
      ·have hlt':(i:Int)<(l.length:Int):=by omega
       have hg:=map_get (AVal.int .i64 ·) l i hlt
       have hs:=wrap_succ (i:=i) (by omega)
       have t1:=List.take_succ_eq_append_getElem hlt
       have hb:=h.ok.grp.2 _ (hin _ (List.getElem_mem hlt))
       generalize l[i]=g at hg t1 hb
       obtain ⟨j,rfl⟩:∃ j:Nat,g=(j:Int):=⟨g.toNat,by omega⟩
       have hj:j<60:=by omega
       have h2:=aIdxR_lt (n:=60) (k:=1) (off:=62) (i:= .new k) (K:= .i64) hj
       have hle:decide (62+j+1≤123)=true:=by simp;omega
       have hle2:decide (62+j≤122)=true:=by simp;omega
       simp +decide only [↓evd,evw,evz,reduceCtorEq,↓reduceIte,e1,e9,hlt']
       with_reducible refine draw_of_grow (fun _=>True) (ms:=[false,false,false,false,true,false,false,false,true]) (by kernel_rfl) ?_
       simp +decide only [↓evd,evw,evz,reduceCtorEq,↓reduceIte,e0,e1,e9,hg,h2,hkb,rc_setgone hj,rc_len,hle,hs]
       refine ⟨m - 1,by omega,i+1,_,by omega,rfl,rfl,?_,?_,?_⟩
       ·intro g hg2
        show (if g=60+j then true else P' g)=P g
        rw [if_neg (by omega)];exact hp1 g hg2
       ·intro g hg2
        show (if 60+g=60+j then true else P' (60+g))=_
        rw [t1]
        by_cases e:g=j
        ·subst e;simp
        ·rw [if_neg (by omega),hp2 g hg2]
         have:((g:Int)∈l.take i ++ [(j:Int)])↔(g:Int)∈l.take i:=by
          rw [List.mem_append,List.mem_singleton]
          exact ⟨fun h=>h.resolve_right (by omega),.inl⟩
         simp [this]
       ·exact hK3.set (.inl (by simp)) _
      ·have hlt':¬(i:Int)<(l.length:Int):=by omega
       rw [List.take_of_length_le (by omega)] at hp2
       simp +decide only [↓evd,evw,evz,reduceCtorEq,↓reduceIte,e0,e1,e9,hlt',hkb,rc_0,rc_len]
       have hKne:∀ q∈[K],q∉[k]:=by intro q hq;simp at hq ⊢;omega
       refine ⟨k::[K],⟨P',.slc (.new K) 0 (R.head+1) cap,els.take R.head ++ [ints (delAll s l)],⟨?_,?_,?_,?_,?_,?_,?_,?_,?_,?_⟩,rfl⟩,?_,?_⟩
       ·rw [Heap.get_set,if_pos rfl];rfl
       ·refine Row.set ?_ (fun K' o n c e=>by cases e;exact fun e=>hKk e.symm) _
        exact Row.move hrow hK3.2.2.1 fun q hq=>hK3.2.2.2 q (by simp [uid] at hq;subst hq;omega) (hKne q hq)
       ·intro K' o n c e;cases e;exact hKk
       ·simp;omega
       ·intro z hz
        rcases List.mem_append.1 hz with hz | hz
        ·exact h.lst z (List.mem_of_mem_take hz)
        ·rw [List.mem_singleton.1 hz];exact ⟨_,.inl rfl⟩
       ·intro j t ht
        cases j with
        | zero=>
         simp at ht;subst ht
         refine ⟨ints (delAll s l),?_,.inl rfl⟩
         have:(els.take R.head).length=R.head:=by simp;omega
         show (els.take R.head ++ [ints (delAll s l)])[R.head+0]? =_
         rw [Nat.add_zero,List.getElem?_append_right (by omega),this];simp
        | succ j=>simp at ht
       ·intro g hg2
        show (P' g && !P' (60+g))=decide ((g:Int)∈delAll R.grp l)
        rw [hp1 g hg2,hp2 g hg2]
        have h1:=h.has g hg2
        have hm:decide ((g:Int)∈delAll R.grp l)=(decide ((g:Int)∈R.grp) && !decide ((g:Int)∈l)):=by
         rw [Bool.eq_iff_iff];simp [mem_delAll]
        rw [hm,← h1]
        cases P g <;> cases P (60+g) <;> simp
       ·intro g hg2
        show P' (60+g)=decide ((g:Int)∈goneAll R.gone l)
        rw [hp2 g hg2,h.gone g hg2]
        rw [Bool.eq_iff_iff];simp [mem_goneAll]
        exact Or.comm
       ·have:=hK3.2.2.1;simp;have:=hA.low;omega
       ·refine ⟨by simp,?_,?_,h.ok.grp.delAll l,h.ok.gone.goneAll fun g hg=>h.ok.grp.2 g (hin g hg)⟩
        ·simp;omega
        ·intro t ht
         simp at ht;subst ht;exact hrt.delAll l
       ·refine Keep.set ?_ (.inl (by simp)) _
        refine (hK2.mono (fp':=k::[K]) (fun x hx _=>by simp at hx;simp [hx])).trans hK3 (fun x hx=>.inl (by simp at hx;simp [hx]))
       ·exact fun x hx=>.inl hx
     ·refine ⟨0,P,by omega,?_⟩
      simp +decide only [evw,evz,↓reduceIte,e0,e1]
      simp only [List.not_mem_nil,decide_false,Bool.or_false]
      exact ⟨hk2,fun _ _=>trivial,Keep.refl _ _⟩
   ·refine ⟨0,by omega,?_⟩
    simp +decide only [evw,evz,↓reduceIte,e0,e1]
    simp only [delAll,List.filter_nil,List.map_nil]
    exact ⟨Own.nil _ _ _ _,Keep.refl _ _⟩
 ·refine ⟨0,by omega,?_⟩
  simp +decide only [evw,evz,↓reduceIte]
  simp
end
theorem rc_cell {a b:Nat} {P:Nat→Bool} {u:AVal} (hu:u.isCell=true):(refCells a b P u).all AVal.isCell=true:=by
 rw [List.all_eq_true]
 intro z hz
 simp only [refCells,List.mem_cons,List.mem_append,List.not_mem_nil,or_false] at hz
 rcases hz with rfl | rfl | hz | rfl
 ·rfl
 ·rfl
 ·simp only [bitRow,List.mem_map] at hz
  obtain ⟨_,_,rfl⟩:=hz;rfl
 ·exact hu
theorem RefAt.ucell {σ:Heap} {k:Nat} {R:Revs} {P:Nat→Bool} {u:AVal} {els:List AVal} (h:RefAt σ k R P u els):u.isCell=true:=by
 rcases h.row.2 with ⟨rfl,_⟩ | ⟨K,cap,cs,opn,rfl,_⟩ <;> rfl
theorem rrcopy_at {σ:Heap} {k:Nat} {R:Revs} {fp:List Nat} (h0:IsRef σ k R fp):MSpec Tryz.prog n_palinoderef20_Revs_Copy [.ptr (.new k) 0] σ fun v τ=>∃ kr fp',v= .ptr (.new kr) 0∧IsRef τ kr R fp'∧(∀ x∈fp',σ.next≤x)∧Keep [] σ τ:=by
 obtain ⟨P,u,els,h,rfl⟩:=h0
 refine spec_of_awp mixed c_palinoderef20_Revs_Copy (tl rfl) ?_
 unfold f_palinoderef20_Revs_Copy
 have hb:=h.blk
 have hlen:=rc_len (a:=R.head) (b:=R.floor) (P:=P) (u:=u)
 have hcell:=rc_cell (a:=R.head) (b:=R.floor) (P:=P) h.ucell
 have hu:=rc_u (a:=R.head) (b:=R.floor) (P:=P) (u:=u)
 have hld:cellsFrom σ (.new k) 0 123=some (refCells R.head R.floor P u):=by
  have:=cellsFrom_whole hb;rw [hlen] at this;exact this
 generalize hcs:refCells R.head R.floor P u=cs at hb hlen hcell hu hld
 obtain ⟨z0,hz0⟩:∃ z0,z0=([AVal.int .i64 0,AVal.int .i64 0] ++ (bitRow 120 (fun _=>false) ++ [AVal.nils])):=⟨_,rfl⟩
 have hz0l:z0.length=123:=by rw [hz0];simp [bitRow_len]
 rw [← hz0]
 have hL:∀ (a:AVal),a= .ptr (.new k) 0→aLoad (some 123) a σ=some (.agg cs):=by
  rintro a rfl;simp only [aLoad,hld,Option.map_some]
 have hkl:=h.low
 have hset:∀ x:AVal,cs.take 122 ++ [x] ++ cs.drop 123=refCells R.head R.floor P x:=fun x=>by rw [← hcs];exact rc_setu x
 have d1:decide (cs.length=123)=true:=by rw [hlen];rfl
 have d2:decide (cs.length≤z0.length)=true:=by rw [hlen,hz0l];rfl
 have d3:cs ++ z0.drop cs.length=cs:=by rw [List.drop_eq_nil_of_le (by omega),List.append_nil]
 have hne:els≠[]:=by
  intro e
  have:=h.len
  have h1:=List.length_pos_iff.2 h.ok.one
  rw [e] at this;simp at this;omega
 obtain ⟨K,cap,rw0,opn,rfl,r1,r2,r3,r4,r5⟩:∃ K cap rw0 opn,u= .slc (.new K) 0 els.length cap∧σ.get K=some (.cells rw0 opn)∧rw0.take (els.length * 1)=els.flatMap AVal.cells∧0≤K∧K<σ.next∧els.length≤rw0.length:=by
  rcases h.row.2 with ⟨_,e⟩ | ⟨K,cap,rw0,opn,q1,q2,q3,q4,q5,q6⟩
  ·exact absurd e hne
  ·refine ⟨K,cap,rw0,opn,q1,q2,q3,q4,q5,?_⟩
   rcases q6 with ⟨_,_,h1⟩ | ⟨c,_,h1,h2⟩ <;> omega
 obtain ⟨τ1,hτ1⟩:∃ τ1,τ1=(σ.new (.cells z0 none)).set σ.next (.cells cs none):=⟨_,rfl⟩
 have hn1:τ1.next=σ.next+1:=by rw [hτ1];rfl
 have hk1:Keep [] σ τ1:=by rw [hτ1];exact (Keep.refl _ _).junk _ _
 have hgk:τ1.get k=some (.cells cs none):=by rw [hk1.get hkl];exact hb
 have hgK:τ1.get K=some (.cells rw0 opn):=by rw [hk1.get r4];exact r1
 have hgn:τ1.get σ.next=some (.cells cs none):=by rw [hτ1,Heap.get_set,if_pos rfl]
 have hfew:=h.few
 have hel:=h.len
 obtain ⟨x',τ2,g1,g2,g3,g4⟩:=own_app (bytes:=24) (y:= .slc (.new K) 0 els.length cap) (ys:=els) (Own.nil τ1.next τ1 t_ints 1) (Nat.le_refl _) rfl (by
  simp only [srcCells,slcCells,Nat.le_refl,if_true]
  rw [cellsFrom_get hgK _ _ (by omega),List.drop_zero,r2]) h.row.1 (by
   rw [lst_flat h.lst,List.all_eq_true]
   intro z hz
   obtain ⟨l,hl⟩:=h.lst z hz
   exact hl.cells.2.1) (by omega) (by omega) (by unfold maxRoom;simp;omega)
 rw [List.nil_append] at g2
 have hgn2:τ2.get σ.next=some (.cells cs none):=by rw [g3.2.2.2 _ (by omega)];exact hgn
 have hle:decide (122+1≤cs.length)=true:=by rw [hlen];rfl
 obtain ⟨K',n',rfl⟩:∃ K' n',x'= .slc (.new K') 0 n' (.gr 1):=by
  rcases g2.2 with ⟨_,e⟩ | ⟨K',e,_⟩
  ·exact absurd e hne
  ·exact ⟨K',_,e⟩
 have hK':=g2.low rfl
 have hnek:(σ.next=k)=False:=eq_false (by omega)
 have g1':=g1
 rw [hτ1] at g1'
 simp +decide only [↓evd,evw,reduceCtorEq,↓reduceIte,↓hld,hb,d1,d2,hcell,d3,hnek,hu,g1',hgn2,hle,hset]
 have hk2:Keep [] σ τ2:=⟨g3.1.trans hk1.1,g3.2.1.trans hk1.2.1,by have:=g3.2.2.1;omega,fun q hq _=>by rw [g3.2.2.2 q (by omega)];exact hk1.get hq⟩
 refine ⟨σ.next,_,rfl,⟨P,.slc (.new K') 0 n' (.gr 1),els,⟨by rw [Heap.get_set,if_pos rfl],?_,?_,h.len,h.lst,h.at_,h.has,h.gone,?_,h.ok⟩,rfl⟩,?_,hk2.set (.inr (Nat.le_refl _)) _⟩
 ·have h1:Own 0 τ2 t_ints 1 (.slc (.new K') 0 n' (.gr 1)) els:=⟨g2.1,g2.2.imp id fun ⟨K,q1,q2,q3,q4⟩=>⟨K,q1,q2,Nat.zero_le _,q4⟩⟩
  exact Own.row (Own.set h1 (fun K o n c e hk=>by injection e with e1;injection e1 with e2;omega) _)
 ·intro K o n c e hk
  injection e with e1;injection e1 with e2;omega
 ·have:=g3.2.2.1;simp only [Heap.set_next];omega
 ·intro x hx
  simp only [uid,List.mem_cons,List.not_mem_nil,or_false] at hx
  omega
structure RefEAt (σ:Heap) (k:Nat) (E:Eng) (x:AVal) (kr:Nat) (fpr:List Nat):Prop where
 blk:σ.get k=some (.cells [.ptr (.new kr) 0,x] none)
 lst:x=eAtoms E.l∨(x= .nils∧E.l=[])
 revs:IsRef σ kr E.R fpr
 low:k<σ.next
 off:k∉fpr
 ok:E.Ok
def IsRefE (σ:Heap) (k:Nat) (E:Eng) (fp:List Nat):Prop:=∃ x kr fpr,RefEAt σ k E x kr fpr∧fp=k::fpr
theorem RefEAt.sees {σ:Heap} {k:Nat} {E:Eng} {x:AVal} {kr:Nat} {fpr:List Nat} (h:RefEAt σ k E x kr fpr) (τ:Heap):Sees τ x τ (eAtoms E.l):=by
 rcases h.lst with rfl | ⟨rfl,e⟩
 ·exact Sees.refl _ _
 ·rw [e];exact Sees.nils τ 5
theorem IsRefE.keep {σ τ:Heap} {k:Nat} {E:Eng} {fp fp':List Nat} (h:IsRefE σ k E fp) (hk:Keep fp' σ τ) (hd:∀ x∈fp,x∉fp'):IsRefE τ k E fp:=by
 obtain ⟨x,kr,fpr,h,rfl⟩:=h
 exact ⟨x,kr,fpr,⟨by rw [hk.2.2.2 k h.low (hd k (by simp))];exact h.blk,h.lst,h.revs.keep hk (fun y hy=>hd y (List.mem_cons_of_mem _ hy)),Nat.lt_of_lt_of_le h.low hk.2.2.1,h.off,h.ok⟩,rfl⟩
theorem IsRefE.low {σ:Heap} {k:Nat} {E:Eng} {fp:List Nat} (h:IsRefE σ k E fp):∀ x∈fp,x<σ.next:=by
 obtain ⟨x,kr,fpr,h,rfl⟩:=h
 intro y hy
 rcases List.mem_cons.1 hy with rfl | hy
 ·exact h.low
 ·exact h.revs.low y hy
theorem rnewE_at (σ:Heap):MSpec Tryz.prog n_palinoderef20_New [] σ fun v τ=>∃ k fp,v= .ptr (.new k) 0∧IsRefE τ k Eng.new fp∧(∀ x∈fp,σ.next≤x)∧Keep [] σ τ:=by
 refine spec_of_awp mixed c_palinoderef20_New (tl rfl) ?_
 unfold f_palinoderef20_New
 simp +decide only [↓evd,evw,reduceCtorEq]
 refine (rnew_at σ).mono ?_
 rintro v τ ⟨rfl,⟨fp,hR,hf⟩,hK⟩
 simp +decide only [↓evd,evw,reduceCtorEq,↓reduceIte]
 have hn:=hK.2.2.1
 have hK2:Keep [] τ (τ.new (.cells [.ptr (.new (σ.next+1)) 0,.nils] none)):=(Keep.refl _ _).new _
 refine ⟨τ.next,_,rfl,⟨.nils,σ.next+1,fp,⟨by rw [Heap.get_new,if_pos rfl],.inr ⟨rfl,rfl⟩,hR.keep hK2 (fun x _=>by simp),by simp,fun hm=>by have:=hR.low _ hm;omega,Eng.new_ok⟩,rfl⟩,?_,hK.new _⟩
 intro x hx
 rcases List.mem_cons.1 hx with rfl | hx
 ·exact hn
 ·exact hf x hx
theorem rtextE_at {σ:Heap} {k:Nat} {E:Eng} {fp:List Nat} (h:IsRefE σ k E fp) (n:Int):ACall Tryz.prog n_palinoderef20_Engine_Text [.ptr (.new k) 0,.int .i64 n] σ (.tup [.str (if E.R.live n then E.text n else []),.bool (E.R.live n)]) σ:=by
 obtain ⟨x,kr,fpr,h,rfl⟩:=h
 obtain ⟨P,u,els,hR,_⟩:=h.revs
 refine exact_call (spec_of_awp mixed c_palinoderef20_Engine_Text (tl rfl) ?_)
 unfold f_palinoderef20_Engine_Text
 have hb:=h.blk
 have hlv:=rlive_call hR n
 have hun:=rundone_call hR n
 have huf:=undone_few hR.ok n
 have htx:=rtext_call σ E.l n (E.R.undone n) huf (h.ok.fits hR.ok)
 have hsee:=h.sees σ
 simp +decide only [↓evd,evw,reduceCtorEq,↓reduceIte,hb]
 refine MSpec.of hlv ?_
 cases hl:E.R.live n
 ·simp +decide only [↓evd,evw,reduceCtorEq,↓reduceIte]
 ·simp +decide only [↓evd,evw,reduceCtorEq,↓reduceIte]
  with_reducible refine draw_of_grow (fun _=>True) (ms:=[false,false,false,false,false,false,false,false,false,false,false,false,false,false]) (by kernel_rfl) ?_
  simp +decide only [↓evd,evw,↓reduceIte,hb]
  refine MSpec.of hun ⟨.inr Keeps.rfl,?_⟩
  simp +decide only [↓evd,evw,evz,↓reduceIte]
  refine mspec_seen (.cons hsee (.cons (Sees.refl _ _) (.cons (Sees.refl _ _) (.nil _)))) ?_
  refine MSpec.of htx ⟨.inr Keeps.rfl,?_⟩
  simp +decide only [↓evd,evw,↓reduceIte]
  rfl
end Go.Proofs.YtioampofolilnaaGreat.M
namespace Go.Proofs.YtioampofolilnaaGreat.M
open Go Go.Mini
attribute [local congr] go1_congr goM_congr goG_congr goV_congr drawwp_congr Xwp_congr
set_option maxHeartbeats 4000000 in
theorem redit_at {σ:Heap} {k:Nat} {E E':Eng} {fp:List Nat} {base group rank n c:Int} {cs:List Chg} (h0:IsRefE σ k E fp) (hcl:cs.length≤1000000) (hc5:∀ c∈cs,c.text.length≤5000) (e:editE E base group rank cs=(E',n,c)):
  MSpec Tryz.prog n_palinoderef20_Engine_Edit [.ptr (.new k) 0,.int .i64 base,.int .i64 group,.int .i64 rank,eChgs cs] σ fun v τ=>v= .tup [.int .i64 n,.int .i64 c]∧∃ fp',IsRefE τ k E' fp'∧Keep fp σ τ∧Fresh fp σ fp':=by
 obtain ⟨x,kr,fpr,h,rfl⟩:=id h0
 refine spec_of_awp mixed c_palinoderef20_Engine_Edit (tl rfl) ?_
 unfold f_palinoderef20_Engine_Edit
 have hroom:maxRoom=68719476736:=rfl
 have hc':∀ c∈cs,ChgFits c:=fun c h=>by have:=hc5 c h;unfold ChgFits;omega
 have hRok:=h.revs.ok
 have htx:=rtextE_at h0 base
 have same:∀ {τ:Heap} {n0 c0:Int},Keep [] σ τ→(E,n0,c0)=(E',n,c)→AVal.tup [.int .i64 n0,.int .i64 c0]=AVal.tup [.int .i64 n,.int .i64 c]∧∃ fp',IsRefE τ k E' fp'∧Keep (k::fpr) σ τ∧Fresh (k::fpr) σ fp':=by
  intro τ n0 c0 hk he
  cases he
  exact ⟨rfl,_,h0.keep hk (fun x _=>by simp),hk.mono (fun x hx=>nomatch hx),fun x hx=>.inl hx⟩
 rw [editE] at e
 cases hl:E.R.live base
 ·rw [if_pos hl] at e
  rw [hl] at htx
  simp +decide only [↓evd,evw,evz,reduceCtorEq,↓reduceIte]
  refine MSpec.of htx ?_
  simp +decide only [↓evd,evw,reduceCtorEq,↓reduceIte]
  exact (same (Keep.refl _ _) e)
 rw [if_neg (by rw [hl];simp)] at e
 rw [hl] at htx
 simp only [if_true] at htx
 have htl:(E.text base).length≤maxRoom:=by
  have:=atomsText_len base (E.R.undone base) E.l
  have:=(h.ok.fits hRok).2.2
  simp only [Eng.text];omega
 have hck:=rcheck_call σ (E.text base) cs htl (by omega) hc'
 simp +decide only [↓evd,evw,evz,reduceCtorEq,↓reduceIte]
 refine MSpec.of htx ?_
 simp +decide only [↓evd,evw,reduceCtorEq,↓reduceIte]
 refine MSpec.of hck ?_
 by_cases hc0:check (E.text base) cs=0
 case neg=>
  rw [if_pos hc0] at e
  have hb:(check (E.text base) cs != 0)=true:=by simpa using hc0
  simp +decide only [↓evd,evw,reduceCtorEq,↓reduceIte,hb]
  exact (same (Keep.refl _ _) e)
 rw [if_neg (by simpa using hc0)] at e
 have hb:(check (E.text base) cs != 0)=false:=by simpa using hc0
 have hbk:=h.blk
 simp +decide only [↓evd,evw,reduceCtorEq,↓reduceIte,hb,hbk]
 refine (rrcopy_at h.revs).mono ?_
 rintro v τ ⟨kr2,fp2,rfl,hR2,hf2,hK⟩
 rcases had:addR E.R group with ⟨R',now,c1⟩
 have hadd:=radd_at hR2 had
 simp +decide only [↓evd,evw,reduceCtorEq,↓reduceIte]
 refine hadd.mono ?_
 rintro v τ1 ⟨rfl,fp3,hR3,hK3,hF3⟩
 have hf3:∀ x∈fp3,σ.next≤x:=fun x hx=>by
  rcases hF3 x hx with h | h
  ·exact hf2 x h
  ·have:=hK.2.2.1;omega
 have hK1:Keep [] σ τ1:=hK.trans hK3 (fun x hx=>.inr (hf2 x hx))
 rw [had] at e
 simp only at e
 by_cases h1:c1=0
 case neg=>
  rw [if_pos h1] at e
  have hb1:(c1 != 0)=true:=by simpa using h1
  simp +decide only [↓evd,evw,reduceCtorEq,↓reduceIte,hb1]
  exact (same hK1 e)
 rw [if_neg (by simpa using h1)] at e
 subst h1
 obtain ⟨a1,a2,a3,a4,a5,a6⟩:=addR_ok (by rw [had]) hRok
 rw [had] at a5 a6
 have hnow:now=(E.R.head:Int)+1:=by have:=congrArg (fun q=>q.2.1) a5;exact this
 have hhd:R'.head=E.R.head+1:=a6
 have hb1:((0:Int) != 0)=false:=rfl
 by_cases h2:rank<0∨1000000<rank
 ·rw [if_pos h2] at e
  rcases h2 with h2 | h2
  ·simp +decide only [↓evd,evw,reduceCtorEq,↓reduceIte,hb1,h2]
   exact (same hK1 e)
  ·have h3:¬rank<0:=by omega
   simp +decide only [↓evd,evw,reduceCtorEq,↓reduceIte,hb1,h2,h3]
   exact (same hK1 e)
 rw [if_neg h2] at e
 have h3:¬rank<0:=by omega
 have h4:¬1000000<rank:=by omega
 have hE1:=h0.keep hK1 (fun x _=>by simp)
 have hbk1:τ1.get k=some (.cells [.ptr (.new kr) 0,x] none):=by rw [hK1.get h.low];exact h.blk
 have hrv1:=h.revs.keep hK1 (fun x _=>by simp)
 obtain ⟨P,u,els,hRA,_⟩:=hrv1
 have hun:=rundone_call hRA base
 have huf:=undone_few hRok base
 have hhead:=head_le hRok
 have hup:=rupon_call τ1 E.l base (E.R.undone base) cs now group rank huf (h.ok.fits hRok) (by have:=h.ok.len;omega) (fun a ha=>by have:=h.ok.cuts a ha;omega) hc5 hc0
 obtain ⟨f1,f2⟩:=upon_facts h.ok (base:=base) (group:=group) (rank:=rank) (now:=now) (cs:=cs) (u:=E.R.undone base)
 have hok':(editE E base group rank cs).1.Ok:=editE_ok h.ok hRok base group rank cs
 rw [editE,if_neg (by rw [hl];simp),if_neg (by simpa using hc0),had] at hok'
 simp only at hok'
 rw [if_neg (by simp),if_neg h2] at hok'
 have hupl:aLen (eAtoms (upon E.l base (E.R.undone base) cs now group rank))=some (.int .i64 ((upon E.l base (E.R.undone base) cs now group rank).length:Nat)):=by simp [eAtoms,aLen_fsl]
 generalize upon E.l base (E.R.undone base) cs now group rank=l' at e hup f1 f2 hok' hupl
 have hsee:=h.sees τ1
 simp only [ints,eChgs] at hun hup
 simp +decide only [↓evd,evw,reduceCtorEq,↓reduceIte,hb1,h3,h4]
 with_reducible refine draw_of_grow (fun _=>True) (ms:=[false,false,false,false,false,false,false,false,false,false,false,false,false,false,false,false,false]) (by kernel_rfl) ?_
 simp +decide only [↓evd,evw,↓reduceIte,hbk1]
 refine MSpec.of hun ⟨.inr Keeps.rfl,?_⟩
 simp +decide only [↓evd,evw,↓reduceIte]
 refine mspec_seen (.cons hsee (.cons (Sees.refl _ _) (.cons (Sees.refl _ _) (.cons (Sees.refl _ _) (.cons (Sees.refl _ _) (.cons (Sees.refl _ _) (.cons (Sees.refl _ _) (.nil _)))))))) ?_
 refine MSpec.of hup ⟨.inr Keeps.rfl,?_⟩
 by_cases h5:4000<l'.length
 ·rw [if_pos h5] at e
  have h5':(4000:Int)<(l'.length:Int):=by omega
  simp +decide only [↓evd,evw,evz,reduceCtorEq,↓reduceIte,h5']
  exact (same hK1 e)
 rw [if_neg h5] at e hok'
 have h5':¬(4000:Int)<(l'.length:Int):=by omega
 obtain ⟨P3,u3,els3,hRA3,hfp3⟩:=id hR3
 have hun3:=rundone_call hRA3 now
 have hR3ok:=hR3.ok
 have huf3:=undone_few hR3ok now
 have hfit:Fits l':=fits_of (n:=201) (by omega) f1 (fun a ha=>by have:=f2 a ha;omega) (by omega)
 have htx3:=rtext_call τ1 l' now (R'.undone now) huf3 hfit
 have hnn:((R'.head:Nat):Int)=now:=by rw [hhd,hnow];rfl
 simp only [Eng.text,hnn] at e hok'
 generalize atomsText now (R'.undone now) l'=t at e htx3 hok'
 simp only [ints,eAtoms] at hun3 htx3
 simp +decide only [↓evd,evw,evz,reduceCtorEq,↓reduceIte,h5']
 refine MSpec.of hun3 ?_
 simp +decide only [↓evd,evw,↓reduceIte]
 refine MSpec.of htx3 ?_
 by_cases h6:20000<t.length
 ·rw [if_pos h6] at e
  have h6':(20000:Int)<(t.length:Int):=by omega
  simp +decide only [↓evd,evw,reduceCtorEq,↓reduceIte,h6']
  exact (same hK1 e)
 rw [if_neg h6] at e hok'
 have h6':¬(20000:Int)<(t.length:Int):=by omega
 cases e
 simp +decide only [↓evd,evw,reduceCtorEq,↓reduceIte,h6',hbk1]
 have hks:=(((Keep.refl [k] τ1).set (j:=k) (.inl (by simp)) (.cells [.ptr (.new kr2) 0,x] none)).set (j:=k) (.inl (by simp)) (.cells [.ptr (.new kr2) 0,.fsl 5 (l'.map eAtom)] none))
 have hkn:∀ y∈fp3,y∉[k]:=fun y hy hm=>by
  have:=hf3 y hy
  have:=h.low
  rw [List.mem_singleton] at hm;omega
 refine ⟨k::fp3,⟨eAtoms l',kr2,fp3,⟨by rw [Heap.get_set,if_pos rfl];rfl,.inl rfl,hR3.keep hks hkn,Nat.lt_of_lt_of_le h.low (by simpa using hK1.2.2.1),fun hm=>hkn k hm (by simp),hok'⟩,rfl⟩,?_,?_⟩
 ·exact ((hK1.mono (fun x hx=>nomatch hx)).set (.inl (by simp)) _).set (.inl (by simp)) _
 ·intro y hy
  rcases List.mem_cons.1 hy with rfl | hy
  ·exact .inl (by simp)
  ·exact .inr (hf3 y hy)
set_option maxHeartbeats 4000000 in
theorem rtoggleE_at {σ:Heap} {k:Nat} {E E':Eng} {fp:List Nat} {g n c:Int} (h0:IsRefE σ k E fp) (e:toggleE E g=(E',n,c)):
  MSpec Tryz.prog n_palinoderef20_Engine_Toggle [.ptr (.new k) 0,.int .i64 g] σ fun v τ=>v= .tup [.int .i64 n,.int .i64 c]∧∃ fp',IsRefE τ k E' fp'∧Keep fp σ τ∧Fresh fp σ fp':=by
 obtain ⟨x,kr,fpr,h,rfl⟩:=id h0
 refine spec_of_awp mixed c_palinoderef20_Engine_Toggle (tl rfl) ?_
 unfold f_palinoderef20_Engine_Toggle
 have hRok:=h.revs.ok
 have same:∀ {τ:Heap} {n0 c0:Int},Keep [] σ τ→(E,n0,c0)=(E',n,c)→AVal.tup [.int .i64 n0,.int .i64 c0]=AVal.tup [.int .i64 n,.int .i64 c]∧∃ fp',IsRefE τ k E' fp'∧Keep (k::fpr) σ τ∧Fresh (k::fpr) σ fp':=by
  intro τ n0 c0 hk he
  cases he
  exact ⟨rfl,_,h0.keep hk (fun x _=>by simp),hk.mono (fun x hx=>nomatch hx),fun x hx=>.inl hx⟩
 have hok':(toggleE E g).1.Ok:=toggleE_ok h.ok hRok g
 rw [toggleE] at e hok'
 have hbk:=h.blk
 simp +decide only [↓evd,evw,reduceCtorEq,↓reduceIte,hbk]
 refine (rrcopy_at h.revs).mono ?_
 rintro v τ ⟨kr2,fp2,rfl,hR2,hf2,hK⟩
 rcases had:toggleR E.R g with ⟨R',now,c1⟩
 have hadd:=rtoggle_at hR2 had
 simp +decide only [↓evd,evw,reduceCtorEq,↓reduceIte]
 refine hadd.mono ?_
 rintro v τ1 ⟨rfl,fp3,hR3,hK3,hF3⟩
 have hf3:∀ x∈fp3,σ.next≤x:=fun x hx=>by
  rcases hF3 x hx with h | h
  ·exact hf2 x h
  ·have:=hK.2.2.1;omega
 have hK1:Keep [] σ τ1:=hK.trans hK3 (fun x hx=>.inr (hf2 x hx))
 rw [had] at e hok'
 simp only at e hok'
 by_cases h1:c1=0
 case neg=>
  rw [if_pos h1] at e
  have hb1:(c1 != 0)=true:=by simpa using h1
  simp +decide only [↓evd,evw,reduceCtorEq,↓reduceIte,hb1]
  exact (same hK1 e)
 rw [if_neg (by simpa using h1)] at e hok'
 subst h1
 obtain ⟨a1,a4,a5,a6⟩:=toggleR_ok (by rw [had]) hRok
 rw [had] at a5 a6
 have hnow:now=(E.R.head:Int)+1:=by have:=congrArg (fun q=>q.2.1) a5;exact this
 have hhd:R'.head=E.R.head+1:=a6
 have hb1:((0:Int) != 0)=false:=rfl
 have hbk1:τ1.get k=some (.cells [.ptr (.new kr) 0,x] none):=by rw [hK1.get h.low];exact h.blk
 obtain ⟨P3,u3,els3,hRA3,hfp3⟩:=id hR3
 have hun3:=rundone_call hRA3 now
 have huf3:=undone_few hR3.ok now
 have htx3:=rtext_call τ1 E.l now (R'.undone now) huf3 (h.ok.fits hRok)
 have hnn:((R'.head:Nat):Int)=now:=by rw [hhd,hnow];rfl
 simp only [Eng.text,hnn] at e hok'
 generalize atomsText now (R'.undone now) E.l=t at e htx3 hok'
 have hsee:=h.sees τ1
 simp only [ints] at hun3 htx3
 simp +decide only [↓evd,evw,reduceCtorEq,↓reduceIte,hb1]
 with_reducible refine draw_of_grow (fun _=>True) (ms:=[false,false,false,false,false,false,false,false,false,false,false]) (by kernel_rfl) ?_
 simp +decide only [↓evd,evw,↓reduceIte,hbk1]
 refine MSpec.of hun3 ⟨.inr Keeps.rfl,?_⟩
 simp +decide only [↓evd,evw,↓reduceIte]
 refine mspec_seen (.cons hsee (.cons (Sees.refl _ _) (.cons (Sees.refl _ _) (.nil _)))) ?_
 refine MSpec.of htx3 ⟨.inr Keeps.rfl,?_⟩
 by_cases h6:20000<t.length
 ·rw [if_pos h6] at e
  have h6':(20000:Int)<(t.length:Int):=by omega
  simp +decide only [↓evd,evw,reduceCtorEq,↓reduceIte,h6']
  exact (same hK1 e)
 rw [if_neg h6] at e hok'
 have h6':¬(20000:Int)<(t.length:Int):=by omega
 cases e
 simp +decide only [↓evd,evw,reduceCtorEq,↓reduceIte,h6',hbk1]
 have hks:=((Keep.refl [k] τ1).set (j:=k) (.inl (by simp)) (.cells [.ptr (.new kr2) 0,x] none))
 have hkn:∀ y∈fp3,y∉[k]:=fun y hy hm=>by
  have:=hf3 y hy
  have:=h.low
  rw [List.mem_singleton] at hm;omega
 refine ⟨k::fp3,⟨x,kr2,fp3,⟨by rw [Heap.get_set,if_pos rfl],h.lst,hR3.keep hks hkn,Nat.lt_of_lt_of_le h.low (by simpa using hK1.2.2.1),fun hm=>hkn k hm (by simp),hok'⟩,rfl⟩,?_,?_⟩
 ·exact (hK1.mono (fun x hx=>nomatch hx)).set (.inl (by simp)) _
 ·intro y hy
  rcases List.mem_cons.1 hy with rfl | hy
  ·exact .inl (by simp)
  ·exact .inr (hf3 y hy)
end Go.Proofs.YtioampofolilnaaGreat.M

