/- The program's functions, as the evaluator's data: made by program. -/
import Derived.Test.YtfffnkeogijkkaaGreatWe
namespace Den
open Go
def p0 : Pos := .h
def p1 : Pos := .o p0
def p2 : Pos := .i p0
def p3 : Pos := .o p1
def p4 : Pos := .i p1
def p5 : Pos := .o p2
def p6 : Pos := .i p2
def p7 : Pos := .o p3
def p8 : Pos := .i p3
def p9 : Pos := .o p4
def p10 : Pos := .i p4
def p11 : Pos := .o p5
def p12 : Pos := .i p5
def p13 : Pos := .o p6
def p14 : Pos := .i p6
def p15 : Pos := .o p7
def p16 : Pos := .i p7
def p17 : Pos := .o p8
def p18 : Pos := .i p8
def p19 : Pos := .o p9
def p20 : Pos := .i p9
def p21 : Pos := .o p10
def p22 : Pos := .i p10
def p23 : Pos := .o p11
def p24 : Pos := .i p11
def p25 : Pos := .o p12
def p26 : Pos := .i p12
def p27 : Pos := .o p13
def p28 : Pos := .i p13
def p29 : Pos := .o p14
def p30 : Pos := .i p14
def p31 : Pos := .o p15
def p32 : Pos := .i p15
def p33 : Pos := .o p16
def p34 : Pos := .i p16
def p35 : Pos := .o p17
def p36 : Pos := .i p17
def p37 : Pos := .o p18
def p38 : Pos := .i p18
def p39 : Pos := .o p19
def p40 : Pos := .i p19
def p41 : Pos := .o p20
def p42 : Pos := .i p20
def p43 : Pos := .o p21
def p44 : Pos := .i p21
def p45 : Pos := .o p22
def p46 : Pos := .i p22
def p47 : Pos := .o p23
def p48 : Pos := .i p23
def p49 : Pos := .o p24
def p50 : Pos := .i p24
def p51 : Pos := .o p25
def p52 : Pos := .i p25
def p53 : Pos := .o p26
def p54 : Pos := .i p26
def p55 : Pos := .o p27
def p56 : Pos := .i p27
def p57 : Pos := .o p28
def p58 : Pos := .i p28
def p59 : Pos := .o p29
def p60 : Pos := .i p29
def p61 : Pos := .o p30
def p62 : Pos := .i p30
def p63 : Pos := .o p31
def p64 : Pos := .i p31
def p65 : Pos := .o p32
def p66 : Pos := .i p32
def p67 : Pos := .o p33
def p68 : Pos := .i p33
def p69 : Pos := .o p34
def p70 : Pos := .i p34
def p71 : Pos := .o p35
def p72 : Pos := .i p35
def p73 : Pos := .o p36
def p74 : Pos := .i p36
def p75 : Pos := .o p37
def p76 : Pos := .i p37
def p77 : Pos := .o p38
def p78 : Pos := .i p38
def p79 : Pos := .o p39
def p80 : Pos := .i p39
def p81 : Pos := .o p40
def p82 : Pos := .i p40
def p83 : Pos := .o p41
def p84 : Pos := .i p41
def p85 : Pos := .o p42
def p86 : Pos := .i p42
def p87 : Pos := .o p43
def p88 : Pos := .i p43
def p89 : Pos := .o p44
def p90 : Pos := .i p44
def p91 : Pos := .o p45
def p92 : Pos := .i p45
def p93 : Pos := .o p46
def p94 : Pos := .i p46
def p95 : Pos := .o p47
def p96 : Pos := .i p47
def p97 : Pos := .o p48
def p98 : Pos := .i p48
def p99 : Pos := .o p49
def p100 : Pos := .i p49
def p101 : Pos := .o p50
def p102 : Pos := .i p50
def p103 : Pos := .o p51
def p104 : Pos := .i p51
def p105 : Pos := .o p52
def p106 : Pos := .i p52
def p107 : Pos := .o p53
def p108 : Pos := .i p53
def p109 : Pos := .o p54
def p110 : Pos := .i p54
def p111 : Pos := .o p55
def p112 : Pos := .i p55
def p113 : Pos := .o p56
def p114 : Pos := .i p56
def p115 : Pos := .o p57
def p116 : Pos := .i p57
def p117 : Pos := .o p58
def p118 : Pos := .i p58
def p119 : Pos := .o p59
def p120 : Pos := .i p59
def p121 : Pos := .o p60
def p122 : Pos := .i p60
def p123 : Pos := .o p61
def p124 : Pos := .i p61
def p125 : Pos := .o p62
def p126 : Pos := .i p62
def p127 : Pos := .o p63
def p128 : Pos := .i p63
def p129 : Pos := .o p64
def p130 : Pos := .i p64
def p131 : Pos := .o p65
def p132 : Pos := .i p65
def p133 : Pos := .o p66
def p134 : Pos := .i p66
def p135 : Pos := .o p67
def p136 : Pos := .i p67
def p137 : Pos := .o p68
def p138 : Pos := .i p68
def p139 : Pos := .o p69
def p140 : Pos := .i p69
def p141 : Pos := .o p70
def p142 : Pos := .i p70
def p143 : Pos := .o p71
def p144 : Pos := .i p71
def p145 : Pos := .o p72
def p146 : Pos := .i p72
def p147 : Pos := .o p73
def p148 : Pos := .i p73
def p149 : Pos := .o p74
def p150 : Pos := .i p74
def p151 : Pos := .o p75
def p152 : Pos := .i p75
def p153 : Pos := .o p76
def p154 : Pos := .i p76
def p155 : Pos := .o p77
def p156 : Pos := .i p77
def p157 : Pos := .o p78
def p158 : Pos := .i p78
def p159 : Pos := .o p79
def p160 : Pos := .i p79
def p161 : Pos := .o p80
def p162 : Pos := .i p80
def p163 : Pos := .o p81
def p164 : Pos := .i p81
def p165 : Pos := .o p82
def p166 : Pos := .i p82
def p167 : Pos := .o p83
def p168 : Pos := .i p83
def p169 : Pos := .o p84
def p170 : Pos := .i p84
def p171 : Pos := .o p85
def p172 : Pos := .i p85
def p173 : Pos := .o p86
def p174 : Pos := .i p86
def p175 : Pos := .o p87
def p176 : Pos := .i p87
def p177 : Pos := .o p88
def p178 : Pos := .i p88
def p179 : Pos := .o p89
def p180 : Pos := .i p89
def p181 : Pos := .o p90
def p182 : Pos := .i p90
def p183 : Pos := .o p91
def p184 : Pos := .i p91
def p185 : Pos := .o p92
def p186 : Pos := .i p92
def p187 : Pos := .o p93
def p188 : Pos := .i p93
def p189 : Pos := .o p94
def p190 : Pos := .i p94
def p191 : Pos := .o p95
def p192 : Pos := .i p95
def p193 : Pos := .o p96
def p194 : Pos := .i p96
def p195 : Pos := .o p97
def p196 : Pos := .i p97
def p197 : Pos := .o p98
def p198 : Pos := .i p98
def p199 : Pos := .o p99
def p200 : Pos := .i p99
def p201 : Pos := .o p100
def p202 : Pos := .i p100
def p203 : Pos := .o p101
def p204 : Pos := .i p101
def p205 : Pos := .o p102
def p206 : Pos := .i p102
def p207 : Pos := .o p103
def p208 : Pos := .i p103
def p209 : Pos := .o p104
def p210 : Pos := .i p104
def p211 : Pos := .o p105
def p212 : Pos := .i p105
def p213 : Pos := .o p106
def p214 : Pos := .i p106
def p215 : Pos := .o p107
def p216 : Pos := .i p107
def p217 : Pos := .o p108
def p218 : Pos := .i p108
def p219 : Pos := .o p109
def p220 : Pos := .i p109
def p221 : Pos := .o p110
def p222 : Pos := .i p110
def p223 : Pos := .o p111
def p224 : Pos := .i p111
def p225 : Pos := .o p112
def p226 : Pos := .i p112
def p227 : Pos := .o p113
def p228 : Pos := .i p113
def p229 : Pos := .o p114
def p230 : Pos := .i p114
def p231 : Pos := .o p115
def p232 : Pos := .i p115
def p233 : Pos := .o p116
def p234 : Pos := .i p116
def p235 : Pos := .o p117
def p236 : Pos := .i p117
def p237 : Pos := .o p118
def p238 : Pos := .i p118
def p239 : Pos := .o p119
def p240 : Pos := .i p119
def p241 : Pos := .o p120
def p242 : Pos := .i p120
def p243 : Pos := .o p121
def p244 : Pos := .i p121
def p245 : Pos := .o p122
def p246 : Pos := .i p122
def p247 : Pos := .o p123
def p248 : Pos := .i p123
def p249 : Pos := .o p124
def p250 : Pos := .i p124
def p251 : Pos := .o p125
def p252 : Pos := .i p125
def p253 : Pos := .o p126
def p254 : Pos := .i p126
def p255 : Pos := .o p127
def p256 : Pos := .i p127
def p257 : Pos := .o p128
def p258 : Pos := .i p128
def p259 : Pos := .o p129
def p260 : Pos := .i p129
def p261 : Pos := .o p130
def p262 : Pos := .i p130
def p263 : Pos := .o p131
def p264 : Pos := .i p131
def p265 : Pos := .o p132
def p266 : Pos := .i p132
def p267 : Pos := .o p133
def p268 : Pos := .i p133
def p269 : Pos := .o p134
def p270 : Pos := .i p134
def p271 : Pos := .o p135
def p272 : Pos := .i p135
def p273 : Pos := .o p136
def p274 : Pos := .i p136
def p275 : Pos := .o p137
def p276 : Pos := .i p137
def p277 : Pos := .o p138
def p278 : Pos := .i p138
def p279 : Pos := .o p139
def p280 : Pos := .i p139
def p281 : Pos := .o p140
def p282 : Pos := .i p140
def p283 : Pos := .o p141
def p284 : Pos := .i p141
def p285 : Pos := .o p142
def p286 : Pos := .i p142
def p287 : Pos := .o p143
def p288 : Pos := .i p143
def p289 : Pos := .o p144
def p290 : Pos := .i p144
def p291 : Pos := .o p145
def p292 : Pos := .i p145
def p293 : Pos := .o p146
def p294 : Pos := .i p146
def p295 : Pos := .o p147
def p296 : Pos := .i p147
def p297 : Pos := .o p148
def p298 : Pos := .i p148
def p299 : Pos := .o p149
def p300 : Pos := .i p149
@[simp] theorem q0 : p0 = pos 0 := _root_.id rfl
@[simp] theorem q1 : p1 = pos 1 := _root_.id rfl
@[simp] theorem q2 : p2 = pos 2 := _root_.id rfl
@[simp] theorem q3 : p3 = pos 3 := _root_.id rfl
@[simp] theorem q4 : p4 = pos 4 := _root_.id rfl
@[simp] theorem q5 : p5 = pos 5 := _root_.id rfl
@[simp] theorem q6 : p6 = pos 6 := _root_.id rfl
@[simp] theorem q7 : p7 = pos 7 := _root_.id rfl
@[simp] theorem q8 : p8 = pos 8 := _root_.id rfl
@[simp] theorem q9 : p9 = pos 9 := _root_.id rfl
@[simp] theorem q10 : p10 = pos 10 := _root_.id rfl
@[simp] theorem q11 : p11 = pos 11 := _root_.id rfl
@[simp] theorem q12 : p12 = pos 12 := _root_.id rfl
@[simp] theorem q13 : p13 = pos 13 := _root_.id rfl
@[simp] theorem q14 : p14 = pos 14 := _root_.id rfl
@[simp] theorem q15 : p15 = pos 15 := _root_.id rfl
@[simp] theorem q16 : p16 = pos 16 := _root_.id rfl
@[simp] theorem q17 : p17 = pos 17 := _root_.id rfl
@[simp] theorem q18 : p18 = pos 18 := _root_.id rfl
@[simp] theorem q19 : p19 = pos 19 := _root_.id rfl
@[simp] theorem q20 : p20 = pos 20 := _root_.id rfl
@[simp] theorem q21 : p21 = pos 21 := _root_.id rfl
@[simp] theorem q22 : p22 = pos 22 := _root_.id rfl
@[simp] theorem q23 : p23 = pos 23 := _root_.id rfl
@[simp] theorem q24 : p24 = pos 24 := _root_.id rfl
@[simp] theorem q25 : p25 = pos 25 := _root_.id rfl
@[simp] theorem q26 : p26 = pos 26 := _root_.id rfl
@[simp] theorem q27 : p27 = pos 27 := _root_.id rfl
@[simp] theorem q28 : p28 = pos 28 := _root_.id rfl
@[simp] theorem q29 : p29 = pos 29 := _root_.id rfl
@[simp] theorem q30 : p30 = pos 30 := _root_.id rfl
@[simp] theorem q31 : p31 = pos 31 := _root_.id rfl
@[simp] theorem q32 : p32 = pos 32 := _root_.id rfl
@[simp] theorem q33 : p33 = pos 33 := _root_.id rfl
@[simp] theorem q34 : p34 = pos 34 := _root_.id rfl
@[simp] theorem q35 : p35 = pos 35 := _root_.id rfl
@[simp] theorem q36 : p36 = pos 36 := _root_.id rfl
@[simp] theorem q37 : p37 = pos 37 := _root_.id rfl
@[simp] theorem q38 : p38 = pos 38 := _root_.id rfl
@[simp] theorem q39 : p39 = pos 39 := _root_.id rfl
@[simp] theorem q40 : p40 = pos 40 := _root_.id rfl
@[simp] theorem q41 : p41 = pos 41 := _root_.id rfl
@[simp] theorem q42 : p42 = pos 42 := _root_.id rfl
@[simp] theorem q43 : p43 = pos 43 := _root_.id rfl
@[simp] theorem q44 : p44 = pos 44 := _root_.id rfl
@[simp] theorem q45 : p45 = pos 45 := _root_.id rfl
@[simp] theorem q46 : p46 = pos 46 := _root_.id rfl
@[simp] theorem q47 : p47 = pos 47 := _root_.id rfl
@[simp] theorem q48 : p48 = pos 48 := _root_.id rfl
@[simp] theorem q49 : p49 = pos 49 := _root_.id rfl
@[simp] theorem q50 : p50 = pos 50 := _root_.id rfl
@[simp] theorem q51 : p51 = pos 51 := _root_.id rfl
@[simp] theorem q52 : p52 = pos 52 := _root_.id rfl
@[simp] theorem q53 : p53 = pos 53 := _root_.id rfl
@[simp] theorem q54 : p54 = pos 54 := _root_.id rfl
@[simp] theorem q55 : p55 = pos 55 := _root_.id rfl
@[simp] theorem q56 : p56 = pos 56 := _root_.id rfl
@[simp] theorem q57 : p57 = pos 57 := _root_.id rfl
@[simp] theorem q58 : p58 = pos 58 := _root_.id rfl
@[simp] theorem q59 : p59 = pos 59 := _root_.id rfl
@[simp] theorem q60 : p60 = pos 60 := _root_.id rfl
@[simp] theorem q61 : p61 = pos 61 := _root_.id rfl
@[simp] theorem q62 : p62 = pos 62 := _root_.id rfl
@[simp] theorem q63 : p63 = pos 63 := _root_.id rfl
@[simp] theorem q64 : p64 = pos 64 := _root_.id rfl
@[simp] theorem q65 : p65 = pos 65 := _root_.id rfl
@[simp] theorem q66 : p66 = pos 66 := _root_.id rfl
@[simp] theorem q67 : p67 = pos 67 := _root_.id rfl
@[simp] theorem q68 : p68 = pos 68 := _root_.id rfl
@[simp] theorem q69 : p69 = pos 69 := _root_.id rfl
@[simp] theorem q70 : p70 = pos 70 := _root_.id rfl
@[simp] theorem q71 : p71 = pos 71 := _root_.id rfl
@[simp] theorem q72 : p72 = pos 72 := _root_.id rfl
@[simp] theorem q73 : p73 = pos 73 := _root_.id rfl
@[simp] theorem q74 : p74 = pos 74 := _root_.id rfl
@[simp] theorem q75 : p75 = pos 75 := _root_.id rfl
@[simp] theorem q76 : p76 = pos 76 := _root_.id rfl
@[simp] theorem q77 : p77 = pos 77 := _root_.id rfl
@[simp] theorem q78 : p78 = pos 78 := _root_.id rfl
@[simp] theorem q79 : p79 = pos 79 := _root_.id rfl
@[simp] theorem q80 : p80 = pos 80 := _root_.id rfl
@[simp] theorem q81 : p81 = pos 81 := _root_.id rfl
@[simp] theorem q82 : p82 = pos 82 := _root_.id rfl
@[simp] theorem q83 : p83 = pos 83 := _root_.id rfl
@[simp] theorem q84 : p84 = pos 84 := _root_.id rfl
@[simp] theorem q85 : p85 = pos 85 := _root_.id rfl
@[simp] theorem q86 : p86 = pos 86 := _root_.id rfl
@[simp] theorem q87 : p87 = pos 87 := _root_.id rfl
@[simp] theorem q88 : p88 = pos 88 := _root_.id rfl
@[simp] theorem q89 : p89 = pos 89 := _root_.id rfl
@[simp] theorem q90 : p90 = pos 90 := _root_.id rfl
@[simp] theorem q91 : p91 = pos 91 := _root_.id rfl
@[simp] theorem q92 : p92 = pos 92 := _root_.id rfl
@[simp] theorem q93 : p93 = pos 93 := _root_.id rfl
@[simp] theorem q94 : p94 = pos 94 := _root_.id rfl
@[simp] theorem q95 : p95 = pos 95 := _root_.id rfl
@[simp] theorem q96 : p96 = pos 96 := _root_.id rfl
@[simp] theorem q97 : p97 = pos 97 := _root_.id rfl
@[simp] theorem q98 : p98 = pos 98 := _root_.id rfl
@[simp] theorem q99 : p99 = pos 99 := _root_.id rfl
@[simp] theorem q100 : p100 = pos 100 := _root_.id rfl
@[simp] theorem q101 : p101 = pos 101 := _root_.id rfl
@[simp] theorem q102 : p102 = pos 102 := _root_.id rfl
@[simp] theorem q103 : p103 = pos 103 := _root_.id rfl
@[simp] theorem q104 : p104 = pos 104 := _root_.id rfl
@[simp] theorem q105 : p105 = pos 105 := _root_.id rfl
@[simp] theorem q106 : p106 = pos 106 := _root_.id rfl
@[simp] theorem q107 : p107 = pos 107 := _root_.id rfl
@[simp] theorem q108 : p108 = pos 108 := _root_.id rfl
@[simp] theorem q109 : p109 = pos 109 := _root_.id rfl
@[simp] theorem q110 : p110 = pos 110 := _root_.id rfl
@[simp] theorem q111 : p111 = pos 111 := _root_.id rfl
@[simp] theorem q112 : p112 = pos 112 := _root_.id rfl
@[simp] theorem q113 : p113 = pos 113 := _root_.id rfl
@[simp] theorem q114 : p114 = pos 114 := _root_.id rfl
@[simp] theorem q115 : p115 = pos 115 := _root_.id rfl
@[simp] theorem q116 : p116 = pos 116 := _root_.id rfl
@[simp] theorem q117 : p117 = pos 117 := _root_.id rfl
@[simp] theorem q118 : p118 = pos 118 := _root_.id rfl
@[simp] theorem q119 : p119 = pos 119 := _root_.id rfl
@[simp] theorem q120 : p120 = pos 120 := _root_.id rfl
@[simp] theorem q121 : p121 = pos 121 := _root_.id rfl
@[simp] theorem q122 : p122 = pos 122 := _root_.id rfl
@[simp] theorem q123 : p123 = pos 123 := _root_.id rfl
@[simp] theorem q124 : p124 = pos 124 := _root_.id rfl
@[simp] theorem q125 : p125 = pos 125 := _root_.id rfl
@[simp] theorem q126 : p126 = pos 126 := _root_.id rfl
@[simp] theorem q127 : p127 = pos 127 := _root_.id rfl
@[simp] theorem q128 : p128 = pos 128 := _root_.id rfl
@[simp] theorem q129 : p129 = pos 129 := _root_.id rfl
@[simp] theorem q130 : p130 = pos 130 := _root_.id rfl
@[simp] theorem q131 : p131 = pos 131 := _root_.id rfl
@[simp] theorem q132 : p132 = pos 132 := _root_.id rfl
@[simp] theorem q133 : p133 = pos 133 := _root_.id rfl
@[simp] theorem q134 : p134 = pos 134 := _root_.id rfl
@[simp] theorem q135 : p135 = pos 135 := _root_.id rfl
@[simp] theorem q136 : p136 = pos 136 := _root_.id rfl
@[simp] theorem q137 : p137 = pos 137 := _root_.id rfl
@[simp] theorem q138 : p138 = pos 138 := _root_.id rfl
@[simp] theorem q139 : p139 = pos 139 := _root_.id rfl
@[simp] theorem q140 : p140 = pos 140 := _root_.id rfl
@[simp] theorem q141 : p141 = pos 141 := _root_.id rfl
@[simp] theorem q142 : p142 = pos 142 := _root_.id rfl
@[simp] theorem q143 : p143 = pos 143 := _root_.id rfl
@[simp] theorem q144 : p144 = pos 144 := _root_.id rfl
@[simp] theorem q145 : p145 = pos 145 := _root_.id rfl
@[simp] theorem q146 : p146 = pos 146 := _root_.id rfl
@[simp] theorem q147 : p147 = pos 147 := _root_.id rfl
@[simp] theorem q148 : p148 = pos 148 := _root_.id rfl
@[simp] theorem q149 : p149 = pos 149 := _root_.id rfl
@[simp] theorem q150 : p150 = pos 150 := _root_.id rfl
@[simp] theorem q151 : p151 = pos 151 := _root_.id rfl
@[simp] theorem q152 : p152 = pos 152 := _root_.id rfl
@[simp] theorem q153 : p153 = pos 153 := _root_.id rfl
@[simp] theorem q154 : p154 = pos 154 := _root_.id rfl
@[simp] theorem q155 : p155 = pos 155 := _root_.id rfl
@[simp] theorem q156 : p156 = pos 156 := _root_.id rfl
@[simp] theorem q157 : p157 = pos 157 := _root_.id rfl
@[simp] theorem q158 : p158 = pos 158 := _root_.id rfl
@[simp] theorem q159 : p159 = pos 159 := _root_.id rfl
@[simp] theorem q160 : p160 = pos 160 := _root_.id rfl
@[simp] theorem q161 : p161 = pos 161 := _root_.id rfl
@[simp] theorem q162 : p162 = pos 162 := _root_.id rfl
@[simp] theorem q163 : p163 = pos 163 := _root_.id rfl
@[simp] theorem q164 : p164 = pos 164 := _root_.id rfl
@[simp] theorem q165 : p165 = pos 165 := _root_.id rfl
@[simp] theorem q166 : p166 = pos 166 := _root_.id rfl
@[simp] theorem q167 : p167 = pos 167 := _root_.id rfl
@[simp] theorem q168 : p168 = pos 168 := _root_.id rfl
def f_trencherlaw19o_DeedsAnswers : Pos := p3
def f_trencherlaw19o_DeedsRefuse : Pos := p4
def f_trencherlaw19o_DeedsKept : Pos := p5
def f_trencherlaw19o_alive : Pos := p6
def f_deeds_Answer : Pos := p7
def f_trencherref05o_May : Pos := p8
def f_trencherlaw19o_Great : Pos := p9
def f_trencherlaw19o_NewWorld : Pos := p10
def f_trencherlaw19o_World_Run : Pos := p11
def f_env_Run_All : Pos := p12
def f_trencherref14o_Mended : Pos := p13
def f_pmem_Region_Seen : Pos := p14
def f_env_Run_Answer : Pos := p15
def f_trencherref12o_Words : Pos := p16
def f_trencherlaw19o_Clean : Pos := p17
def f_pmem_Region_Kept : Pos := p18
def f_pmem_Of : Pos := p19
def f_trencherref12o_Fresh : Pos := p20
def f_heap_New : Pos := p21
def f_locks_New : Pos := p22
def f_env_New : Pos := p23
def f_deeds_Deed : Pos := p24
def f_env_Run_goes : Pos := p25
def f_trencherref12o_Replayed : Pos := p26
def f_trencherref14o_Marked : Pos := p27
def f_slices_Clone_uint64o_uint64 : Pos := p28
def f_pmem_may : Pos := p29
def f_trencherref05o_Total : Pos := p30
def f_trencherref07o_Write : Pos := p31
def f_heap_Newc1 : Pos := p32
def f_head_Word : Pos := p33
def f_geom_May : Pos := p34
def f_slices_ContainsFunc_api_Head_api_Head : Pos := p35
def f_slices_Clone_api_Head_api_Head : Pos := p36
def f_addr_All : Pos := p37
def f_addr_Spot : Pos := p38
def f_bits_Has : Pos := p39
def f_locks_Table_Drop : Pos := p40
def f_deeds_Deedc1 : Pos := p41
def f_deeds_deed_do : Pos := p42
def f_env_Run_goesc1 : Pos := p43
def f_trencherref07o_Read : Pos := p44
def f_trencherref12o_Lane : Pos := p45
def f_trencherref12o_May : Pos := p46
def f_trencherref05o_Lane : Pos := p47
def f_trencherref13o_Reach : Pos := p48
def f_trencherref12o_Heads : Pos := p49
def f_trencherref13o_Keeps : Pos := p50
def f_trencherref13o_Maps : Pos := p51
def f_trencherref08o_Word : Pos := p52
def f_trencherref05o_Head : Pos := p53
def f_trencherref09o_Word : Pos := p54
def f_trencherref03o_Sealed : Pos := p55
def f_head_may : Pos := p56
def f_pack_Join : Pos := p57
def f_head_widths : Pos := p58
def f_sum_Of : Pos := p59
def f_geom_within : Pos := p60
def f_slices_IndexFunc_api_Head_api_Head : Pos := p61
def f_addr_blocks : Pos := p62
def f_geom_Where : Pos := p63
def f_addr_Whole : Pos := p64
def f_addr_shape : Pos := p65
def f_bits_one : Pos := p66
def f_locks_Table_Len : Pos := p67
def f_deeds_kinds : Pos := p68
def f_geom_Lane : Pos := p69
def f_deeds_failed : Pos := p70
def f_trencherref10o_Read : Pos := p71
def f_trencherref05o_Where : Pos := p72
def f_trencherref05o_Root : Pos := p73
def f_trencherref13o_find : Pos := p74
def f_trencherref13o_Object : Pos := p75
def f_trencherref12o_Fits : Pos := p76
def f_trencherref08o_Read : Pos := p77
def f_trencherref01o_With : Pos := p78
def f_trencherref03o_Of : Pos := p79
def f_head_rights : Pos := p80
def f_pack_walk : Pos := p81
def f_pack_Joinc1 : Pos := p82
def f_pack_mask : Pos := p83
def f_pack_Put : Pos := p84
def f_sum_step : Pos := p85
def f_addr_blocksc1 : Pos := p86
def f_geom_Span : Pos := p87
def f_geom_areas : Pos := p88
def f_addr_right : Pos := p89
def f_head_Run : Pos := p90
def f_classes_Blocks : Pos := p91
def f_classes_Size : Pos := p92
def f_deeds_deed_malloc : Pos := p93
def f_deeds_deed_free : Pos := p94
def f_deeds_deed_set : Pos := p95
def f_deeds_deed_get : Pos := p96
def f_deeds_deed_write : Pos := p97
def f_deeds_deed_read : Pos := p98
def f_deeds_deed_persist : Pos := p99
def f_deeds_deed_tx : Pos := p100
def f_geom_part : Pos := p101
def f_trencherref10o_May : Pos := p102
def f_trencherref11o_All : Pos := p103
def f_trencherref01o_Has : Pos := p104
def f_trencherref09o_Read : Pos := p105
def f_trencherref06o_Spans : Pos := p106
def f_trencherref08o_May : Pos := p107
def f_trencherref01o_Bit : Pos := p108
def f_trencherref03o_Bytes : Pos := p109
def f_head_rightsc1 : Pos := p110
def f_head_rightsc2 : Pos := p111
def f_head_rightsc3 : Pos := p112
def f_head_rightsc4 : Pos := p113
def f_head_rightsc5 : Pos := p114
def f_pack_field : Pos := p115
def f_addr_rightc1 : Pos := p116
def f_classes_Of : Pos := p117
def f_geom_Root : Pos := p118
def f_deeds_deed_under : Pos := p119
def f_deeds_deed_large : Pos := p120
def f_deeds_deed_reserve : Pos := p121
def f_deeds_deed_mallocc1 : Pos := p122
def f_deeds_deed_settle : Pos := p123
def f_deeds_deed_once : Pos := p124
def f_deeds_deed_mallocc2 : Pos := p125
def f_heap_Heap_Give : Pos := p126
def f_deeds_deed_freec1 : Pos := p127
def f_deeds_deed_place : Pos := p128
def f_env_Env_Load : Pos := p129
def f_deeds_deed_object : Pos := p130
def f_block_Slot : Pos := p131
def f_deeds_deed_mapAt : Pos := p132
def f_bits_Without : Pos := p133
def f_deeds_found_spans : Pos := p134
def f_geom_Head : Pos := p135
def f_deeds_deed_publish : Pos := p136
def f_deeds_deed_back : Pos := p137
def f_deeds_deed_setc1 : Pos := p138
def f_deeds_plan_point : Pos := p139
def f_deeds_deed_getc1 : Pos := p140
def f_deeds_deed_atDatum : Pos := p141
def f_deeds_deed_writec1 : Pos := p142
def f_env_Env_Store : Pos := p143
def f_deeds_deed_readc1 : Pos := p144
def f_deeds_deed_persistc1 : Pos := p145
def f_deeds_plan_datum : Pos := p146
def f_lane_Lines : Pos := p147
def f_env_Env_Flush : Pos := p148
def f_env_Env_Fence : Pos := p149
def f_deeds_deed_txc1 : Pos := p150
def f_deeds_plan_edit : Pos := p151
def f_entry_Last : Pos := p152
def f_trencherref11o_Whole : Pos := p153
def f_trencherref06o_Size : Pos := p154
def f_trencherref05o_Span : Pos := p155
def f_trencherref09o_May : Pos := p156
def f_trencherref06o_Of : Pos := p157
def f_env_Env_Lock : Pos := p158
def f_env_Env_Unlock : Pos := p159
def f_classes_Spans : Pos := p160
def f_deeds_deed_number : Pos := p161
def f_deeds_deed_largec1 : Pos := p162
def f_heap_Heap_Room : Pos := p163
def f_heap_Heap_Large : Pos := p164
def f_deeds_deed_largec2 : Pos := p165
def f_deeds_deed_largec3 : Pos := p166
def f_heap_Heap_Loose : Pos := p167
def f_deeds_deed_take : Pos := p168
def f_deeds_deed_reservec1 : Pos := p169
def f_deeds_deed_reservec1c1 : Pos := p170
def f_heap_Heap_Refill : Pos := p171
def f_deeds_deed_reservec2 : Pos := p172
def f_deeds_deed_reservec2c1 : Pos := p173
def f_heap_Heap_Carve : Pos := p174
def f_deeds_deed_kept : Pos := p175
def f_block_Word : Pos := p176
def f_bits_With : Pos := p177
def f_env_Env_Do : Pos := p178
def f_deeds_deed_oncec1 : Pos := p179
def f_heap_Heap_cache : Pos := p180
def f_env_Env_step : Pos := p181
def f_env_always : Pos := p182
def f_env_Env_Loadc1 : Pos := p183
def f_pmem_Region_Load : Pos := p184
def f_deeds_deed_objectc1 : Pos := p185
def f_heap_Heap_Heads : Pos := p186
def f_deeds_spotWidths : Pos := p187
def f_pack_Split : Pos := p188
def f_block_Read : Pos := p189
def f_lane_Through : Pos := p190
def f_deeds_deed_backc1 : Pos := p191
def f_deeds_deed_backc1c1 : Pos := p192
def f_deeds_deed_backc2 : Pos := p193
def f_heap_Heap_Cache : Pos := p194
def f_deeds_deed_backc3 : Pos := p195
def f_deeds_deed_backc3c1 : Pos := p196
def f_heap_Heap_Drain : Pos := p197
def f_heap_Heap_Empty : Pos := p198
def f_deeds_deed_backc3c2 : Pos := p199
def f_heap_Heap_Release : Pos := p200
def f_deeds_plan_load : Pos := p201
def f_deeds_plan_counted : Pos := p202
def f_deeds_plan_put : Pos := p203
def f_deeds_deed_atDatumc1 : Pos := p204
def f_env_Env_Storec1 : Pos := p205
def f_pmem_Region_Store : Pos := p206
def f_block_Data : Pos := p207
def f_lane_lines : Pos := p208
def f_lane_addresses : Pos := p209
def f_env_Env_Flushc1 : Pos := p210
def f_pmem_Region_Flush : Pos := p211
def f_env_Env_Fencec1 : Pos := p212
def f_pmem_Region_Fence : Pos := p213
def f_entry_Lastc1 : Pos := p214
def f_slices_ContainsFunc_api_Entry_api_Entry : Pos := p215
def f_trencherref11o_May : Pos := p216
def f_env_Env_Lockc1 : Pos := p217
def f_locks_Table_Take : Pos := p218
def f_env_Env_Unlockc1 : Pos := p219
def f_locks_Table_Leave : Pos := p220
def f_deeds_deed_numberc1 : Pos := p221
def f_heap_Heap_free : Pos := p222
def f_deeds_deed_takec1 : Pos := p223
def f_heap_Heap_Take : Pos := p224
def f_heap_Heap_list : Pos := p225
def f_heap_Heap_Refillc1 : Pos := p226
def f_heap_pop : Pos := p227
def f_heap_class : Pos := p228
def f_heap_Heap_blocks : Pos := p229
def f_slices_Reverse_int_int : Pos := p230
def f_block_may : Pos := p231
def f_block_widths : Pos := p232
def f_env_alwaysc1 : Pos := p233
def f_pmem_Region_at : Pos := p234
def f_pmem_Region_Loadc1 : Pos := p235
def f_pack_Splitc1 : Pos := p236
def f_pack_Get : Pos := p237
def f_entry_Words : Pos := p238
def f_lane_right : Pos := p239
def f_lane_kept : Pos := p240
def f_lane_placed : Pos := p241
def f_lane_seal : Pos := p242
def f_entry_Seal : Pos := p243
def f_heap_copied : Pos := p244
def f_slices_Clone_int_int : Pos := p245
def f_heap_Heap_empty : Pos := p246
def f_slices_DeleteFunc_int_int : Pos := p247
def f_heap_Heap_Releasec1 : Pos := p248
def f_slices_Contains_int_int : Pos := p249
def f_block_More : Pos := p250
def f_pmem_Region_Storec1 : Pos := p251
def f_slices_Sort_int_int : Pos := p252
def f_slices_Compact_int_int : Pos := p253
def f_pmem_Region_Flushc1 : Pos := p254
def f_pmem_Region_noted : Pos := p255
def f_pmem_line : Pos := p256
def f_pmem_Region_Fencec1 : Pos := p257
def f_pmem_Region_keep : Pos := p258
def f_slices_IndexFunc_api_Entry_api_Entry : Pos := p259
def f_locks_Table_at : Pos := p260
def f_locks_Table_Takec1 : Pos := p261
def f_syncatomic_Int64o_Add : Pos := p262
def f_locks_Table_Leavec1 : Pos := p263
def f_heap_Heap_freec1 : Pos := p264
def f_addr_Addr : Pos := p265
def f_pmem_Region_there : Pos := p266
def f_entry_may : Pos := p267
def f_entry_widths : Pos := p268
def f_lane_rightc1 : Pos := p269
def f_image_May : Pos := p270
def f_geom_Entry : Pos := p271
def f_sum_Sealed : Pos := p272
def f_slices_ContainsFunc_int_int : Pos := p273
def f_heap_Heap_emptyc1 : Pos := p274
def f_slices_IndexFunc_int_int : Pos := p275
def f_slices_Index_int_int : Pos := p276
def f_slices_pdqsortOrdered_int : Pos := p277
def f_mathbits_Len : Pos := p278
def f_syncatomic_AddInt64 : Pos := p279
def f_pmem_Region_Size : Pos := p280
def f_entry_mayc1 : Pos := p281
def f_slices_insertionSortOrdered_int : Pos := p282
def f_slices_heapSortOrdered_int : Pos := p283
def f_slices_breakPatternsOrdered_int : Pos := p284
def f_slices_choosePivotOrdered_int : Pos := p285
def f_slices_reverseRangeOrdered_int : Pos := p286
def f_slices_partialInsertionSortOrdered_int : Pos := p287
def f_cmp_Less_int : Pos := p288
def f_slices_partitionEqualOrdered_int : Pos := p289
def f_slices_partitionOrdered_int : Pos := p290
def f_mathbits_Len32 : Pos := p291
def f_mathbits_Len64 : Pos := p292
def f_slices_siftDownOrdered_int : Pos := p293
def f_slices_nextPowerOfTwo : Pos := p294
def f_slices_xorshift_Next : Pos := p295
def f_slices_medianAdjacentOrdered_int : Pos := p296
def f_slices_medianOrdered_int : Pos := p297
def f_cmp_isNaN_int : Pos := p298
def f_slices_order2Ordered_int : Pos := p299
end Den
