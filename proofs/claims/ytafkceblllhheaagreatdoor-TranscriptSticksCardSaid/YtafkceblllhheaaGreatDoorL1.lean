/- Whatever the pattern's bytes and the calls are, the law TranscriptSticks returns true and its arguments read as before, where the table of constants is laid as the program's text lays it. -/
import Derived.Test.YtafkceblllhheaaGreatDoorRows
import Derived.Test.YtafkceblllhheaaGreatDoorTie
import Derived.Test.YtafkceblllhheaaGreatDoorCards
import Derived.Test.YtafkceblllhheaaGreatDoorC9
import Derived.Test.YtafkceblllhheaaGreatDoorC7
import Derived.Test.YtafkceblllhheaaGreatDoorL0
set_option linter.unusedSimpArgs false
set_option linter.unusedVariables false
set_option maxRecDepth 100000
namespace Go.Proofs.YtafkceblllhheaaGreatDoor
open Go.ChangeShapes Go.WideShapes Go.RowKit Go.Av
theorem own:ownKnob Tryz.prog.godebug=none:=by kernel_rfl
theorem zPJ:laidOutB Tryz.prog=true:=by kernel_rfl
theorem gK:Tryz.prog.globalNamed "avouch/keccak.constants"=some 0:=by kernel_rfl
abbrev zx3:List (String × DataW Unit):=[("avouch/keccak.constants",Rows.laid_avouch_keccak_constants)]
theorem zCA (os : Os) (args : Array Value) : laidMetH Tryz.prog zx3 ((World.laidAll Tryz.prog os zx3).forCall (fun _ _ => 0) ⟨#[], args, []⟩).memory := by
  rw [Go.MakeChecks.laidMetH_plain _ _ _ (by kernel_rfl)]
  exact laidMet_laidAll args (by kernel_rfl) (by kernel_rfl)
def rcI:List Int:=[1,32898,9223372036854808714,9223372039002292224,32907,2147483649,9223372039002292353,9223372036854808585,138,136,2147516425,2147483658,2147516555,9223372036854775947,9223372036854808713,9223372036854808579,9223372036854808578,9223372036854775936,32778,9223372039002259466,9223372039002292353,9223372036854808704,2147483649,9223372039002292232]
theorem zEO {W:World} (h:laidMetH Tryz.prog zx3 W):∀ g cs,Av.ctx.glob g=some cs→zqM (st0 W) g cs:=by
  intro g cs hg
  rw [Go.MakeChecks.laidMetH_plain _ _ _ (by kernel_rfl)] at h
  have h1:zqM (st0 W) 0 (rcI.map fun z=>.int .u64 z):=zFe (t:=348) (e:=59) (n:=24) gK (by kernel_rfl) (by kernel_rfl) (by kernel_rfl) (by kernel_rfl) (by kernel_rfl) h (List.mem_singleton.2 rfl)
  match g,hg with
  | 0,hg=>obtain rfl:=Option.some.inj hg;exact h1
  | g+1,hg=>simp [Av.ctx,zL6] at hg
theorem zyE:∀ {es:List (List zaa)},zhA [.int .i64,.int .i64,.int .i64,.sl [.int .u8]] es→∃ l:List zdW,es=l.map zdW.cells∧∀ c∈l,inB c.b
  | [],_=>⟨[],rfl,by simp⟩
  | e :: es, h => by
    cases h with
    | cons _ _ _ h1 h2=>
      obtain ⟨l,rfl,hl⟩:=zyE h2
      cases h1 with
      | cons _ _ _ _ a1 h1=>
        cases h1 with
        | cons _ _ _ _ a2 h1=>
          cases h1 with
          | cons _ _ _ _ a3 h1=>
            cases h1 with
            | cons _ _ _ _ a4 h1=>
              cases h1
              obtain ⟨x1,rfl,w1⟩:=zuO a1
              obtain ⟨x2,rfl,w2⟩:=zuO a2
              obtain ⟨x3,rfl,w3⟩:=zuO a3
              obtain ⟨es2,rfl,_,q2⟩:=zza a4
              obtain ⟨x4,rfl,w4⟩:=zpt q2
              refine ⟨⟨x1,x2,x3,x4⟩ :: l,rfl,fun a ha=>?_⟩
              rcases List.mem_cons.1 ha with rfl | ha
              · exact ztY fun x hx=>wf_u8 (w4 x hx)
              · exact hl a ha
theorem lifted (os:Os) (started:os.Started) (H:Type) (enc:TypeId × Value→H):
    ReturnsInHanded {} Tryz.checked os 6 .any (fun w args => (Rows.transcriptSticksSpec.pre enc Tryz.prog Tryz.f6 [] false w args ∧ laidMetH Tryz.prog zx3 w) ∧ sizedMet enc Tryz.prog Tryz.f6 (OpenSpec.ofChange Rows.transcriptSticksSpec) false w args)
      (Rows.transcriptSticksSpec.post enc Tryz.prog Tryz.f6 false true false false):=by
  refine returnsInHanded_of_change_and (C := Tryz.checked) (X := fun w _ => laidMetH Tryz.prog zx3 w) (fun _ _ _ hh h => h.of_heap hh) own started (by kernel_rfl) Tryz.func6
    (ChangeSpec.witness_shaped (enc:=enc) (C:=Tryz.checked) (os:=os) (X:=fun w _=>laidMetH Tryz.prog zx3 w) false (World.laidAll Tryz.prog os zx3) #[.slice none 0 0,.slice none 0 0] 8 (World.laidAll_os _ _ _) (World.shaped_of_RefB (by kernel_rfl) (by kernel_rfl)) (by kernel_rfl) (by kernel_rfl) (by kernel_rfl) (zCA os _)) ?_
  intro W base args ds gs before hval0 hW _ _ hL _
  have hval:∀ (j:Nat) t v,Tryz.f6.params[j]?=some t→args[j]?=some v→Value.okWide Tryz.prog W .any base t v:=hval0
  have hW':=hW
  obtain ⟨p,q,hA0,hV,rfl,hfz,hnd⟩:=hW
  have hA:DataW.TrodAll enc Tryz.prog W 0 (fun _=>true) true Tryz.f6.params.toList args.toList ds p:=hA0
  rw [Tryz.params6] at hA hval
  obtain ⟨v0,vs0,d0,ds0,p0,q0,hargs,rfl,rfl,h0,r0⟩:=trodAll_cons hA
  obtain ⟨v1,vs1,d1,ds1,p1,q1,rfl,rfl,rfl,h1,r1⟩:=trodAll_cons r0
  obtain ⟨rfl,rfl,rfl⟩:=trodAll_nil r1
  obtain rfl:args=#[v0,v1]:=by cases args;simp_all
  obtain ⟨es0,hs0,hel0,e0⟩:=zCn (d:=6) (e:=5) (ts:=[.int .u8]) (by kernel_rfl) (by kernel_rfl) (hval 0 _ v0 rfl rfl) h0
  obtain ⟨m,rfl,hm⟩:=zpt hel0
  obtain ⟨es1,hs1,hel1,e1⟩:=zCn (d:=6) (e:=40) (ts:=[.int .i64,.int .i64,.int .i64,.sl [.int .u8]]) (by kernel_rfl) (by kernel_rfl) (hval 1 _ v1 rfl rfl) h1
  obtain ⟨l,rfl,hl⟩:=zyE hel1
  have hlen:l.length < 9223372036854775808:=by unfold maxLen at hs1;simp at hs1;omega
  have hcall:=zGF zMf (W:=W) (f:=Av.za7) (args:=[.vsl false (eI .u8 m),.vsl false (l.map zdW.cells)]) (cargs:=#[v0,v1]) rfl (zBU ⟨0,0,0,0⟩ ⟨[],[]⟩ m (ztY fun x hx=>wf_u8 (hm x hx)) l hlen hl) (zEO hL) (.cons _ _ _ _ e0 (.cons _ _ _ _ e1 .nil))
  refine hcall.mono fun e W' ⟨he,hb⟩=>?_
  exact ⟨_,he,zCk (t:=4) zPJ (of_decide_eq_true (by kernel_rfl)) rfl hW' hb (by kernel_rfl) (by kernel_rfl) ⟨rfl,rfl,rfl⟩⟩
theorem zkP:Rows.TranscriptSticksSaid:=
  OpenClaim.holds_of_wide 6 Tryz.f6 rfl rfl rfl rfl rfl rfl rfl ⟨rfl, rfl, rfl, rfl, rfl⟩ rfl rfl rfl rfl rfl (by kernel_rfl) Tryz.func6 (by kernel_rfl)
    (of_decide_eq_true (by kernel_rfl)) (by unfold Func.isWrapper;first | (rw [if_pos (by decide +kernel)];kernel_rfl) | (rw [if_neg (by decide +kernel)];exact ⟨rfl,rfl⟩))
    (fun os started H enc _=>lifted os started H enc)
theorem transcriptSticks_card:Rows.TranscriptSticksCardSaid:=
  Claim7.holds_tied_plain_at .later [] [.data] true (true,"5cdae95c36ba2da79ccc0b150a168b5750cc7a7ac611029f93d4d6c14ff46b21") false
    zkP (fun _ h=>by cases h) (by kernel_rfl) (fun _ h=>by cases h) transcriptSticks_row_tie rfl ⟨rfl,rfl⟩ (by kernel_rfl) rfl
    (fun f fn hf hfn => by
      obtain rfl:f=6:=Option.some.inj ((show Tryz.prog.funcNamed "avouch/avouchlaw18.TranscriptSticks"=some 6 by kernel_rfl).symm.trans hf) |>.symm
      obtain rfl:fn=Tryz.f6:=(Option.some.inj (Tryz.func6.symm.trans hfn)).symm
      exact ⟨by kernel_rfl, fun j t ht => by
        rw [Tryz.params6] at ht
        have h3:t=25∨t=63:=by
          rcases j with _ | _ | j
          · left;simpa using ht.symm
          · right;simpa using ht.symm
          · simp at ht
        rcases h3 with rfl | rfl
        · exact (show Tryz.prog.wantsStandIn 25=false by kernel_rfl)
        · exact (show Tryz.prog.wantsStandIn 63=false by kernel_rfl)⟩)
    (by kernel_rfl)
#print axioms transcriptSticks_card
end Go.Proofs.YtafkceblllhheaaGreatDoor
